/-
  The byte at an address, out of an image and out of its cells. Conditions: none.
-/
import Derived.Test.YtmpmciccgempeaaGreatDoorG2
import Derived.Test.YtmpmciccgempeaaGreatDoorBD2
import Derived.Test.YtmpmciccgempeaaGreatDoorBD1
import Derived.Test.YtmpmciccgempeaaGreatDoorBN1
import Derived.Test.YtmpmciccgempeaaGreatDoorBA1
import Derived.Test.YtmpmciccgempeaaGreatDoorBC1
import Derived.Test.YtmpmciccgempeaaGreatDoorBR1
import Derived.Test.YtmpmciccgempeaaGreatDoorChecked
import Derived.Test.YtmpmciccgempeaaGreatDoorShelf
namespace Go.Proofs.YtmpmciccgempeaaGreatDoor
open Go.RowKit Go.Shelf Go.Sort

def byteO (o : Option UInt8) : Int := match o with
  | some b => (b.toNat : Int)
  | none => 0
set_option maxHeartbeats 4000000 in
set_option maxRecDepth 1000000 in
theorem imgGet_out (b : Nat) (a : Int) (w : World) (h : a < 0 ∨ 65535 < a) :
    Calls Tryz.prog 90 #[.pointer (some ⟨b, 0, none⟩), .int .i64 a] w fun e w' => e = .returned (.tuple #[.int .u8 0, .bool false]) ∧ w' = w := by
  by_cases h1 : a < 0
  · clear h
    go_enter Tryz.func90, Tryz.ntmps90
    go_wp2
    exact bodyPost_ret (v := .tuple #[.int .u8 0, .bool false]) (by simp [results, Tryz.results90, go_sem]) rfl ⟨rfl, rfl⟩
  · have h2 : (65536 : Int) ≤ a := by omega
    have h3 : decide (a < 0) = false := decide_eq_false h1
    have h4 : decide ((65536 : Int) ≤ a) = true := decide_eq_true h2
    clear h
    go_enter Tryz.func90, Tryz.ntmps90
    go_wp2
    exact bodyPost_ret (v := .tuple #[.int .u8 0, .bool false]) (by simp [results, Tryz.results90, go_sem]) rfl ⟨rfl, rfl⟩
theorem imgGet_gB (b n : Nat) (a : Int) (d : Nat → Bool) (v : Nat → UInt8) (w : World) (h : eO w b d v n) :
    Calls Tryz.prog 90 #[.pointer (some ⟨b, 0, none⟩), .int .i64 a] w fun e w' => e = .returned (.tuple #[.int .u8 (byteO (gB d v a)), .bool (gB d v a).isSome]) ∧ w' = w := by
  by_cases hr : a < 0 ∨ 65535 < a
  · rw [gB_out hr]
    exact imgGet_out b a w hr
  · obtain ⟨m, rfl⟩ := Int.eq_ofNat_of_zero_le (show 0 ≤ a by omega)
    have hm : m < 65536 := by omega
    rw [gB_in hm]
    have := imgGet_any b n m d v w h hm
    cases hd : d m
    · rw [hd] at this
      exact this
    · rw [hd] at this
      exact this
set_option maxHeartbeats 4000000 in
set_option maxRecDepth 1000000 in
theorem get02_any (p : aB) (cv : Value) (d : Nat → Bool) (v : Nat → UInt8) (a : Int) (w : World) (h : SlR cH w p cv (eU d v)) :
    Calls Tryz.prog 91 #[cv, .int .i64 a] w fun e w' => e = .returned (.tuple #[.int .u8 (byteO (gB d v a)), .bool (gB d v a).isSome]) ∧ w = w' := by
  have HF := aA (qQ p cv (eU d v) a w h)
  have hg := @get_cell d v a
  obtain ⟨ca, cc, rfl, hc1, hc2, g⟩ := h.cel
  generalize eU d v = m at *
  have hle := eL a m
  generalize aT a m = f at *
  have hml : (m.length : Int) ≤ 9223372036854775807 := by omega
  have hfi : (f : Int) ≤ 9223372036854775807 := by omega
  have hf0 : (0 : Int) ≤ (f : Int) := by omega
  clear h
  by_cases hf : f < m.length
  · have hf2 : (f : Int) < (m.length : Int) := by omega
    have hf3 : decide ((f : Int) < (m.length : Int)) = true := decide_eq_true hf2
    obtain ⟨b, o, rfl, _, d0, d1⟩ := g f m[f] (List.getElem?_eq_getElem hf)
    rw [List.getElem?_eq_getElem hf] at hg
    generalize m[f] = c at *
    cases hG : gB d v a with
    | none =>
      have hne := hg.2 hG c rfl
      have hne2 : ((c.addr : Int) == a) = false := by rw [beq_eq_false_iff_ne]; exact hne
      generalize c.addr = y at *
      generalize c.byte = z at *
      clear hg hG g hle hc1 hc2 hne
      go_enter Tryz.func91, Tryz.ntmps91
      go_wp2_with (go_at_call 147; refine HF.out.mono ?_; rintro e w1 ⟨rfl, rfl⟩)
      exact bodyPost_ret (v := .tuple #[.int .u8 0, .bool false]) (by simp [results, Tryz.results91, go_sem]) rfl ⟨rfl, rfl⟩
    | some x =>
      obtain ⟨c', hc', e1, e2⟩ := hg.1 x hG
      injection hc' with hc'
      subst hc'
      have HB : Hid (byteO (some x) = (c.byte.toNat : Int)) := aA (by rw [e2]; rfl)
      have hbt := c.byte.toNat_lt
      have hse : ((c.addr : Int) == a) = true := by rw [beq_iff_eq]; exact e1
      generalize c.byte.toNat = z at *
      generalize c.addr = y at *
      clear hg hG g hle hc1 hc2 e1 e2
      go_enter Tryz.func91, Tryz.ntmps91
      go_wp2_with (go_at_call 147; refine HF.out.mono ?_; rintro e w1 ⟨rfl, rfl⟩)
      exact bodyPost_ret (v := .tuple #[.int .u8 z, .bool true]) (by simp [results, Tryz.results91, go_sem]) rfl ⟨by rw [HB.out]; rfl, rfl⟩
  · have hG : gB d v a = none := by
      cases hG : gB d v a with
      | none => rfl
      | some x =>
        obtain ⟨c, hc, _⟩ := hg.1 x hG
        rw [List.getElem?_eq_none (by omega)] at hc
        cases hc
    rw [hG]
    have hf2 : ¬ (f : Int) < (m.length : Int) := by omega
    have hf3 : decide ((f : Int) < (m.length : Int)) = false := decide_eq_false hf2
    clear hg hG g hle hc1 hc2 hf
    go_enter Tryz.func91, Tryz.ntmps91
    go_wp2_with (go_at_call 147; refine HF.out.mono ?_; rintro e w1 ⟨rfl, rfl⟩)
    exact bodyPost_ret (v := .tuple #[.int .u8 0, .bool false]) (by simp [results, Tryz.results91, go_sem]) rfl ⟨rfl, rfl⟩
/-- the bytes taken so far -/
theorem bys_get {d : Nat → Bool} {v : Nat → UInt8} : ∀ {n k : Nat} {a : Int}, k < n → k ≤ (bys d v a n).length →
    (gB d v (a + k) = none → (bys d v a n).length = k) ∧ (∀ b, gB d v (a + k) = some b → k < (bys d v a n).length ∧ (bys d v a n).take (k + 1) = (bys d v a n).take k ++ [b])
  | 0, _, _, h, _ => by omega
  | n + 1, 0, a, _, _ => by
    rw [show a + ((0 : Nat) : Int) = a by omega]
    constructor
    · intro h
      rw [bys_none h]; rfl
    · intro b h
      rw [bys_some h]
      exact ⟨by simp, by simp⟩
  | n + 1, k + 1, a, h, hk => by
    cases hG : gB d v a with
    | none => rw [bys_none hG] at hk; simp at hk
    | some b0 =>
      rw [bys_some hG] at hk ⊢
      rw [List.length_cons] at hk ⊢
      have ih := @bys_get d v n k (a + 1) (by omega) (by omega)
      rw [show a + 1 + (k : Int) = a + ((k + 1 : Nat) : Int) by omega] at ih
      constructor
      · intro h; rw [ih.1 h]
      · intro b h
        obtain ⟨h1, h2⟩ := ih.2 b h
        exact ⟨by omega, by rw [List.take_succ_cons, List.take_succ_cons, h2]; rfl⟩
theorem bys_pos {d : Nat → Bool} {v : Nat → UInt8} {n : Nat} {a : Int} (h : 0 < (bys d v a n).length) : 0 ≤ a ∧ a ≤ 65535 := by
  cases hG : gB d v a with
  | none => rw [bys_none hG] at h; simp at h
  | some b =>
    unfold gB at hG
    split at hG
    · omega
    · cases hG
end Go.Proofs.YtmpmciccgempeaaGreatDoor
