/-
  items.Covers; breadboardref13.Covers. Conditions: sizes.
-/
import Derived.Test.YtnbmbcjnncbaiaaGreatDoorJ20
namespace Go.Proofs.YtnbmbcjnncbaiaaGreatDoor
open Go.RowKit Go.Shelf Go.Sort

def hitF (o : Int) (L : List It) (j : Nat) : Bool := decide ((offF L j : Int) ≤ o) && decide (o < (offF L (j + 1) : Int))
/-- the index of the item with a byte, or -1 -/
def covF (o : Int) (L : List It) : Int := match (List.range L.length).find? (hitF o L) with | some j => (j : Int) | none => -1
theorem cov_hit {o : Int} {L : List It} {k : Nat} (hk : k < L.length) (hn : ∀ j, j < k → hitF o L j = false) (h : hitF o L k = true) : covF o L = k := by
  unfold covF
  have : (List.range L.length).find? (hitF o L) = some k := by
    rw [List.find?_range_eq_some]
    exact ⟨h, by simpa using hk, fun j hj => by rw [hn j hj]; rfl⟩
  rw [this]
theorem cov_none {o : Int} {L : List It} (hn : ∀ j, j < L.length → hitF o L j = false) : covF o L = -1 := by
  unfold covF
  have : (List.range L.length).find? (hitF o L) = none := by
    rw [List.find?_range_eq_none]
    exact fun j hj => by rw [hn j hj]; rfl
  rw [this]
set_option maxHeartbeats 4000000 in
set_option maxRecDepth 100000 in
theorem Covers13_any (p : Blocks) (o : Int) (v : Value) (ls : List It) (w : World) (h : SlR itR w p v ls) (hf : (rawF ls).length ≤ 1000000) :
    Calls Tryz.prog 40 #[.int .i64 o, v] w fun e w' => e = .returned (.int .i64 (covF o ls)) ∧ w' = w := by
  obtain ⟨a, c, rfl, _, _, g8⟩ := h.it
  have HF := Lib.hid hf
  have HHT := Lib.hid (fun k h1 h2 h3 => @cov_hit o ls k h1 h2 h3)
  have HNN := Lib.hid (@cov_none o ls)
  clear h hf
  obtain ⟨R, hR⟩ : ∃ R, covF o ls = R := ⟨_, rfl⟩
  rw [hR] at HHT HNN ⊢
  clear hR
  go_enter Tryz.func40, Tryz.ntmps40
  go_wp2
  go_loopw [5, 6] (fun at_ i wr => ∃ k : Nat, k ≤ ls.length ∧ i = .int .i64 k ∧ at_ = .int .i64 (offF ls k) ∧ wr = w ∧ ∀ j, j < k → hitF o ls j = false) (fun _ i _ => ls.length - (intOf i).toNat)
  case atStart => exact ⟨0, Nat.zero_le _, rfl, rfl, rfl, fun j h => absurd h (Nat.not_lt_zero _)⟩
  case round =>
    obtain ⟨k, hk, rfl, rfl, rfl, hall⟩ := hrel
    have HA := Lib.hid hall
    clear hall
    by_cases hlt : k < ls.length
    · obtain ⟨b1, o1, ra1, rc1, va1, vc1, rfl, _, x0, x1, x2, x3, x4, _, _⟩ := g8 k ls[k] (List.getElem?_eq_getElem hlt)
      have HSU := Lib.hid (offF_succ hlt)
      have HLE := Lib.hid (offF_le ls (k + 1))
      have HHK : Hid (hitF o ls k = (decide ((offF ls k : Int) ≤ o) && decide (o < (offF ls (k + 1) : Int)))) := Lib.hid rfl
      have HYS := Lib.hid (fun h => HHT.out k hlt HA.out h)
      have HNX : Hid (hitF o ls k = false → ∀ j, j < k + 1 → hitF o ls j = false) := Lib.hid (fun h j hj => by
        by_cases e : j = k
        · subst e; exact h
        · exact HA.out j (by omega))
      clear g8
      generalize hB : hitF o ls k = B at *
      clear hB
      generalize ls[k] = x at *
      obtain ⟨k9, R1, op, args, al⟩ := x
      dsimp only at x0 x1 x2 x3 x4 HSU
      have hw1 : IntKind.i64.wrap ((offF ls k : Int) + (R1.length : Int)) = (offF ls k : Int) + (R1.length : Int) := by have := HSU.out; have := HLE.out; have := HF.out; rw [IntKind.wrap_i64]; omega
      have HE2 : Hid ((offF ls k : Int) + (R1.length : Int) = (offF ls (k + 1) : Nat)) := Lib.hid (by rw [HSU.out]; push_cast; rfl)
      rw [← HE2.out] at HHK
      obtain ⟨T, hT⟩ : ∃ T, offF ls k = T := ⟨_, rfl⟩
      rw [hT] at hw1 HE2 HHK ⊢
      clear hT
      by_cases q1 : (T : Int) ≤ o
      · by_cases q2 : o < (T : Int) + (R1.length : Int)
        · have HR := Lib.hid (HYS.out (by rw [HHK.out, decide_eq_true q1, decide_eq_true q2]; rfl))
          go_wp2
          go_ret
          exact ⟨by rw [HR.out]; rfl, rfl⟩
        · have HR := Lib.hid (HNX.out (by rw [HHK.out, decide_eq_false q2]; simp))
          go_wp2
          go_roundw
          case rel => exact ⟨k + 1, by omega, by go_num, by rw [HE2.out], by first | rfl | trivial, HR.out⟩
          case measure => simp [intOf]; omega
      · have HR := Lib.hid (HNX.out (by rw [HHK.out, decide_eq_false q1]; simp))
        go_wp2
        go_roundw
        case rel => exact ⟨k + 1, by omega, by go_num, by rw [HE2.out], by first | rfl | trivial, HR.out⟩
        case measure => simp [intOf]; omega
    · have HR := Lib.hid (HNN.out (fun j hj => HA.out j (by omega)))
      go_wp2
      go_ret
      exact ⟨by rw [HR.out]; rfl, rfl⟩
set_option maxHeartbeats 4000000 in
set_option maxRecDepth 100000 in
theorem Covers_any (p : Blocks) (o : Int) (v : Value) (ls : List It) (w : World) (ho : o ≤ 9223372036854775807) (h : SlR itR w p v ls) (hf : (rawF ls).length ≤ 1000000) (hn : ls.length ≤ 1000000) :
    Calls Tryz.prog 39 #[.int .i64 o, v] w fun e w' => e = .returned (.tuple #[.int .i64 (max (covF o ls) 0), .bool (decide (0 ≤ covF o ls))]) ∧ RowKit.Below w.heap.size w w' := by
  have HOF := Lib.hid (Offsets_any p v ls w h hf hn)
  have HH := Lib.hid h
  obtain ⟨a, c, rfl, _, _, _⟩ := h.it
  have HF := Lib.hid hf
  have HHT := Lib.hid (fun k h1 h2 h3 => @cov_hit o ls k h1 h2 h3)
  have HNN := Lib.hid (@cov_none o ls)
  have HO := Lib.hid ho
  clear h hf hn ho
  obtain ⟨R, hR⟩ : ∃ R, covF o ls = R := ⟨_, rfl⟩
  rw [hR] at HHT HNN ⊢
  clear hR
  go_enter Tryz.func39, Tryz.ntmps39
  go_wp2_with (go_at_call 42; refine (HOF.out).mono ?_; rintro e w1 ⟨v1, rfl, ho1, hb1⟩; obtain ⟨xa, xc, rfl⟩ := ho1.form; have HS1 := Lib.hid (ho1.slR (q := fun _ => True) (fun _ h => h.elim) (fun _ _ => trivial)); have HX1 := Lib.hid (HH.out.below hb1); have HB1 := Lib.hid hb1; rw [offsF_len] at HS1 ⊢; clear ho1 hb1)
  go_loopw [6, 7, 11] (fun _ _ i wr => ∃ k : Nat, k ≤ ls.length ∧ i = .int .i64 k ∧ wr = w1 ∧ ∀ j, j < k → hitF o ls j = false) (fun _ _ i _ => ls.length - (intOf i).toNat)
  case atStart => exact ⟨0, Nat.zero_le _, rfl, rfl, fun j h => absurd h (Nat.not_lt_zero _)⟩
  case round =>
    obtain ⟨k, hk, rfl, rfl, hall⟩ := hrel
    have HA := Lib.hid hall
    clear hall
    by_cases hlt : k < ls.length
    · obtain ⟨a8, c8, e8, _, _, g8⟩ := HX1.out.it
      injection e8 with e8 e10 e11
      clear e10
      subst e8 e11
      obtain ⟨b1, o1, ra1, rc1, va1, vc1, rfl, _, x0, x1, x2, x3, x4, _, _⟩ := g8 k ls[k] (List.getElem?_eq_getElem hlt)
      obtain ⟨a7, c7, e7, _, _, g7⟩ := HS1.out.int
      injection e7 with e7 e10 e11
      clear e10
      subst e7 e11
      obtain ⟨b2, o2, rfl, _, y0⟩ := g7 k (offF ls k : Int) (offsF_at ls hlt)
      have HSU := Lib.hid (offF_succ hlt)
      have HHK : Hid (hitF o ls k = (decide ((offF ls k : Int) ≤ o) && decide (o < (offF ls (k + 1) : Int)))) := Lib.hid rfl
      have HYS := Lib.hid (fun h => HHT.out k hlt HA.out h)
      have HNX : Hid (hitF o ls k = false → ∀ j, j < k + 1 → hitF o ls j = false) := Lib.hid (fun h j hj => by
        by_cases e : j = k
        · subst e; exact h
        · exact HA.out j (by omega))
      clear g8 g7
      generalize hB : hitF o ls k = B at *
      clear hB
      generalize ls[k] = x at *
      obtain ⟨k9, R1, op, args, al⟩ := x
      dsimp only at x0 x1 x2 x3 x4 HSU
      have HE2 : Hid ((offF ls k : Int) + (R1.length : Int) = (offF ls (k + 1) : Nat)) := Lib.hid (by rw [HSU.out]; push_cast; rfl)
      rw [← HE2.out] at HHK
      clear HE2 HSU
      generalize offF ls k = T at *
      by_cases q1 : (T : Int) ≤ o
      · have hw1 : IntKind.i64.wrap (o - (T : Int)) = o - (T : Int) := by have := HO.out; rw [IntKind.wrap_i64]; omega
        by_cases q2 : o - (T : Int) < (R1.length : Int)
        · have HR := Lib.hid (HYS.out (by rw [HHK.out, decide_eq_true q1, decide_eq_true (show o < (T : Int) + (R1.length : Int) by omega)]; rfl))
          go_wp2
          go_ret2
          exact ⟨by rw [HR.out]; simp, HB1.out⟩
        · have HR := Lib.hid (HNX.out (by rw [HHK.out, decide_eq_false (show ¬ o < (T : Int) + (R1.length : Int) by omega)]; simp))
          go_wp2
          go_roundw
          case rel => exact ⟨k + 1, by omega, by go_num, by first | rfl | trivial, HR.out⟩
          case measure => simp [intOf]; omega
      · have HR := Lib.hid (HNX.out (by rw [HHK.out, decide_eq_false q1]; simp))
        go_wp2
        go_roundw
        case rel => exact ⟨k + 1, by omega, by go_num, by first | rfl | trivial, HR.out⟩
        case measure => simp [intOf]; omega
    · have HR := Lib.hid (HNN.out (fun j hj => HA.out j (by omega)))
      go_wp2
      go_ret2
      exact ⟨by rw [HR.out]; rfl, HB1.out⟩
end Go.Proofs.YtnbmbcjnncbaiaaGreatDoor
