/-
  record.Sum; record.right. Conditions: none.
-/
import Derived.Test.YtcfjcoockklkeaaDoorW1
namespace Go.Proofs.YtcfjcoockklkeaaDoor
open Go.RowKit

set_option maxHeartbeats 1000000 in
theorem Sum_any (p : Blocks) (v : Value) (l : List UInt8) (w : World) (h : SlR byteR w p v l) :
    Calls Tryd.prog 62 #[v] w fun e w' => e = .returned (.int .u8 ((sum03 l).toNat : Nat)) ∧ Below w.heap.size w w' := by
  obtain ⟨a, c, rfl, hc1, hc2, _⟩ := h.byte
  have H := Lib.hid h
  have hlen : (l.length : Int) ≤ 9223372036854775807 := by omega
  have HLN := Lib.hid hlen
  clear h hc1 hc2 hlen
  have hmf : ∀ (fn : Fn) (first cap : Array Value) (w : World), (Instr.makeFunc fn first cap).run Tryd.prog w = .ok (.func fn first cap) w := fun _ _ _ _ => rfl
  go_enter Tryd.func62, Tryd.ntmps62
  go_wp2
  have HC0 : Hid ((w.alloc (.cells #[.int .u8 0] 5)).cell? ⟨w.heap.size, 0, none⟩ = some (.int .u8 ((sum03 (l.take 0)).toNat : Nat))) := by
    rw [List.take_zero, sum03_nil]
    exact World.cell?_alloc_at _ _ _ _ rfl
  have HF0 : Hid ((w.alloc (.cells #[.int .u8 0] 5)).frozen? ⟨w.heap.size, 0, none⟩ = false) := (Blk.new w 5 _).free 0
  have HB0 : Hid (Below w.heap.size w (w.alloc (.cells #[.int .u8 0] 5))) := (Below.refl _ w).alloc (Nat.le_refl _) _
  go_loopw [10] (fun i wr => ∃ k : Nat, k ≤ l.length ∧ i = .int .i64 k ∧ wr.cell? ⟨w.heap.size, 0, none⟩ = some (.int .u8 ((sum03 (l.take k)).toNat : Nat)) ∧ wr.frozen? ⟨w.heap.size, 0, none⟩ = false ∧ Below w.heap.size w wr) (fun i _ => l.length - (intOf i).toNat)
  case atStart => exact ⟨0, Nat.zero_le _, rfl, HC0.out, HF0.out, HB0.out⟩
  case round =>
    obtain ⟨k, hk, rfl, hc, hf, hb⟩ := hrel
    have HB := Lib.hid hb
    have HF := Lib.hid hf
    clear hb
    by_cases hlt : k < l.length
    · have HT : Hid (l.take (k+1) = l.take k ++ [l[k]]) := List.take_succ_eq_append_getElem hlt
      have HS := Lib.hid (sum03_snoc (l.take k) l[k])
      obtain ⟨ad, cd, hv, _, _, g⟩ := (H.out.old.below HB.out).byte
      obtain ⟨rfl, _, rfl⟩ : a = ad ∧ l.length = l.length ∧ c = cd := by injection hv with h1 h2 h3; exact ⟨h1, h2, h3⟩
      obtain ⟨b1, o1, rfl, _, hcell⟩ := g k l[k] (List.getElem?_eq_getElem hlt)
      clear g hv
      generalize l[k] = y at *
      have HX := Lib.hid (Sum1_any w.heap.size (sum03 (l.take k)) y wr hc hf)
      have HCC := Lib.hid hc
      clear hc hf
      generalize sum03 (l.take k) = s at *
      have hk9 := HLN.out
      go_wp2_with (go_at_call 98; refine HX.out.mono ?_; rintro e w' ⟨rfl, q, hw⟩; have HW := Lib.hid hw; clear hw)
      go_roundw
      case rel =>
        refine ⟨k + 1, by omega, by go_num, ?_, ?_, ?_⟩
        · rw [HW.out, HT.out, HS.out, World.cell?_drewN]
          exact World.cell?_setCell_same' _ _ _ (by rw [HCC.out]; rfl)
        · rw [HW.out, World.frozen?_drewN, World.frozen?_setCell]; exact HF.out
        · rw [HW.out]; exact below_dN (HB.out.setCell (p := ⟨w.heap.size, 0, none⟩) (Nat.le_refl _) _) _
      case measure => simp [intOf]; omega
    · obtain rfl : k = l.length := by omega
      rw [List.take_length] at hc
      go_wp2
      go_ret
      exact ⟨rfl, HB.out⟩

theorem right_is (t a : Int) (n : Nat) : rightB t a n = (allB 0 255 [t, (n : Int)] && allB 0 65535 [a]) := by
  unfold rightB allB
  rw [Bool.eq_iff_iff]
  simp
  omega
theorem fits_two (lo hi x y : Int) (W : World) (b : Nat) (hb : b = W.heap.size) :
    Calls Tryd.prog 51 #[.int .i64 lo, .int .i64 hi, .slice (some ⟨b, 0, none⟩) 2 2] (W.alloc (.cells #[.int .i64 x, .int .i64 y] 3)) fun e w' => e = .returned (.bool (allB lo hi [x, y])) ∧ W.alloc (.cells #[.int .i64 x, .int .i64 y] 3) = w' := by
  subst hb
  exact Fits_any lo hi (fun _ => True) _ [x, y] _ (slR_lit W 3 (fun _ => True) [x, y] #[.int .i64 x, .int .i64 y] 2 rfl rfl (by simp) (fun _ _ => trivial))
theorem fits_one (lo hi x : Int) (W : World) (b : Nat) (hb : b = W.heap.size) :
    Calls Tryd.prog 51 #[.int .i64 lo, .int .i64 hi, .slice (some ⟨b, 0, none⟩) 1 1] (W.alloc (.cells #[.int .i64 x] 3)) fun e w' => e = .returned (.bool (allB lo hi [x])) ∧ W.alloc (.cells #[.int .i64 x] 3) = w' := by
  subst hb
  exact Fits_any lo hi (fun _ => True) _ [x] _ (slR_lit W 3 (fun _ => True) [x] #[.int .i64 x] 1 rfl rfl (by simp) (fun _ _ => trivial))
set_option maxHeartbeats 1000000 in
theorem right_any (t a : Int) (sa : Option Addr) (n c : Nat) (w : World) :
    Calls Tryd.prog 117 #[.agg #[.int .i64 t, .int .i64 a, .slice sa n c]] w fun e w' => e = .returned (.bool (rightB t a n)) ∧ Below w.heap.size w w' := by
  rw [right_is]
  have H1 := Lib.hid (fun (W : World) (b : Nat) (hb : b = W.heap.size) => fits_two 0 255 t n W b hb)
  have H2 := Lib.hid (fun (W : World) (b : Nat) (hb : b = W.heap.size) => fits_one 0 65535 a W b hb)
  cases h : allB 0 255 [t, (n : Int)]
  · rw [h] at H1
    go_enter Tryd.func117, Tryd.ntmps117
    go_wp2_with (go_at_call 51; refine (H1.out _ _ (by simp)).mono ?_; rintro e w' ⟨rfl, rfl⟩)
    go_ret
    exact ⟨rfl, ((Below.refl _ _).alloc (Nat.le_refl _) _).alloc (by simp) _⟩
  · rw [h] at H1
    generalize allB 0 65535 [a] = q at *
    go_enter Tryd.func117, Tryd.ntmps117
    go_wp2_with (go_at_call 51; first | ((with_reducible refine (H1.out _ _ (by simp)).mono ?_); rintro e w' ⟨rfl, rfl⟩) | ((with_reducible refine (H2.out _ _ (by simp)).mono ?_); rintro e w' ⟨rfl, rfl⟩))
    go_ret
    exact ⟨by simp, (((Below.refl _ _).alloc (Nat.le_refl _) _).alloc (by simp) _).alloc (by simp; omega) _⟩
end Go.Proofs.YtcfjcoockklkeaaDoor
