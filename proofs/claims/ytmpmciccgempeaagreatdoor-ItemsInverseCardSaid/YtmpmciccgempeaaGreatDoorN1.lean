/-
  The plain law of chapter 12: the first item of an encoding, whatever follows, is the canonical form. Conditions: none.
-/
import Derived.Test.YtmpmciccgempeaaGreatDoorBE3
import Derived.Test.YtmpmciccgempeaaGreatDoorBI1
import Derived.Test.YtmpmciccgempeaaGreatDoorBW1
import Derived.Test.YtmpmciccgempeaaGreatDoorBH1
import Derived.Test.YtmpmciccgempeaaGreatDoorBA17
import Derived.Test.YtmpmciccgempeaaGreatDoorBA14
import Derived.Test.YtmpmciccgempeaaGreatDoorBA12
import Derived.Test.YtmpmciccgempeaaGreatDoorBA6
import Derived.Test.YtmpmciccgempeaaGreatDoorBC1
import Derived.Test.YtmpmciccgempeaaGreatDoorBA5
import Derived.Test.YtmpmciccgempeaaGreatDoorBA1
import Derived.Test.YtmpmciccgempeaaGreatDoorBR1
import Derived.Test.YtmpmciccgempeaaGreatDoorChecked
import Derived.Test.YtmpmciccgempeaaGreatDoorBA4
import Derived.Test.YtmpmciccgempeaaGreatDoorShelf
import Derived.Test.YtmpmciccgempeaaGreatDoorBA2
import Derived.Test.YtmpmciccgempeaaGreatDoorBE1
import Derived.Test.YtmpmciccgempeaaGreatDoorBA3
import Derived.Test.YtmpmciccgempeaaGreatDoorBA9
import Derived.Test.YtmpmciccgempeaaGreatDoorBE2
import Derived.Test.YtmpmciccgempeaaGreatDoorBA7
import Derived.Test.YtmpmciccgempeaaGreatDoorBA8
import Derived.Test.YtmpmciccgempeaaGreatDoorBA11
import Derived.Test.YtmpmciccgempeaaGreatDoorBA10
import Derived.Test.YtmpmciccgempeaaGreatDoorBA13
import Derived.Test.YtmpmciccgempeaaGreatDoorBA16
import Derived.Test.YtmpmciccgempeaaGreatDoorBA15
import Derived.Test.YtmpmciccgempeaaGreatDoorBV1
import Derived.Test.YtmpmciccgempeaaGreatDoorShelfT
import Derived.Test.YtmpmciccgempeaaGreatDoorBJ1
import Derived.Test.YtmpmciccgempeaaGreatDoorBS1
import Derived.Test.YtmpmciccgempeaaGreatDoorBC2
import Derived.Test.YtmpmciccgempeaaGreatDoorBU1
import Derived.Test.YtmpmciccgempeaaGreatDoorBH2
import Derived.Test.YtmpmciccgempeaaGreatDoorBC4
import Derived.Test.YtmpmciccgempeaaGreatDoorBC3
namespace Go.Proofs.YtmpmciccgempeaaGreatDoor
open Go.RowKit Go.Shelf Go.Sort

theorem sg_low {d : Int} (h1 : -128 ≤ d) (h2 : d ≤ 127) : sg (eW d).toNat = d := by
  have := mP d
  unfold sg
  split <;> omega
theorem by_low {n : Int} (h1 : 0 ≤ n) (h2 : n ≤ 255) : ((eW n).toNat : Int) = n := by have := mP n; omega
theorem word_low {n : Int} (h1 : 0 ≤ n) (h2 : n ≤ 65535) : ((eW n).toNat : Int) + 256 * ((eW (n / 256)).toNat : Int) = n := by
  have := mP n; have := mP (n / 256); omega
theorem bAt_mid (P : List UInt8) (R : List UInt8) (i : Nat) : bAt (P ++ R) (P.length + i) = bAt R i := by
  unfold bAt
  rw [List.getD_eq_getElem?_getD, List.getD_eq_getElem?_getD, List.getElem?_append_right (by omega), Nat.add_sub_cancel_left]
theorem pgB_0 {k : Nat} {T : List UInt8} (hk : k < 256) (h : k ≠ 203 ∧ k ≠ 237 ∧ k ≠ 221 ∧ k ≠ 253) : pgB (UInt8.ofNat k :: T) = 0 := by
  have e0 : bAt (UInt8.ofNat k :: T) 0 = k := by show (UInt8.ofNat k).toNat = k; rw [UInt8.toNat_ofNat', Nat.mod_eq_of_lt hk]
  unfold pgB
  rw [e0, if_neg h.1, if_neg h.2.1, if_neg h.2.2.1, if_neg h.2.2.2]
theorem pgB_1 (T : List UInt8) : pgB (203 :: T) = 1 := by
  have e0 : bAt (203 :: T) 0 = 203 := rfl
  unfold pgB
  rw [e0, if_pos rfl]
theorem pgB_2 (T : List UInt8) : pgB (237 :: T) = 2 := by
  have e0 : bAt (237 :: T) 0 = 237 := rfl
  unfold pgB
  rw [e0, if_neg (by decide), if_pos rfl]
theorem pgB_3 {k : Nat} {T : List UInt8} (hk : k < 256) (h : k ≠ 203) : pgB (221 :: UInt8.ofNat k :: T) = 3 := by
  have e0 : bAt (221 :: UInt8.ofNat k :: T) 0 = 221 := rfl
  have e1 : bAt (221 :: UInt8.ofNat k :: T) 1 = k := by show (UInt8.ofNat k).toNat = k; rw [UInt8.toNat_ofNat', Nat.mod_eq_of_lt hk]
  unfold pgB
  rw [e0, e1, if_neg (by decide), if_neg (by decide), if_pos rfl, if_neg (fun x => h x.2)]
theorem pgB_4 {k : Nat} {T : List UInt8} (hk : k < 256) (h : k ≠ 203) : pgB (253 :: UInt8.ofNat k :: T) = 4 := by
  have e0 : bAt (253 :: UInt8.ofNat k :: T) 0 = 253 := rfl
  have e1 : bAt (253 :: UInt8.ofNat k :: T) 1 = k := by show (UInt8.ofNat k).toNat = k; rw [UInt8.toNat_ofNat', Nat.mod_eq_of_lt hk]
  unfold pgB
  rw [e0, e1, if_neg (by decide), if_neg (by decide), if_neg (by decide), if_pos rfl, if_neg (fun x => h x.2)]
theorem pgB_5 (T : List UInt8) : pgB (221 :: 203 :: T) = 5 := by
  have e0 : bAt (221 :: 203 :: T) 0 = 221 := rfl
  have e1 : bAt (221 :: 203 :: T) 1 = 203 := rfl
  unfold pgB
  rw [e0, e1, if_neg (by decide), if_neg (by decide), if_pos rfl, if_pos ⟨by rw [List.length_cons, List.length_cons]; omega, rfl⟩]
theorem pgB_6 (T : List UInt8) : pgB (253 :: 203 :: T) = 6 := by
  have e0 : bAt (253 :: 203 :: T) 0 = 253 := rfl
  have e1 : bAt (253 :: 203 :: T) 1 = 203 := rfl
  unfold pgB
  rw [e0, e1, if_neg (by decide), if_neg (by decide), if_neg (by decide), if_pos rfl, if_pos ⟨by rw [List.length_cons, List.length_cons]; omega, rfl⟩]
/-- the pieces of an encoding -/
theorem enc_lo {e : aL} {p k : Nat} (h1 : e.pg = p) (h2 : e.op = k) (h5 : p < 5) (d n : Int) : kI e d n = (aR p ++ [UInt8.ofNat k]) ++ e.ex.flatMap (jN d n) := by
  unfold kI
  rw [h1, h2, if_neg (by omega)]
theorem enc_hi {e : aL} {p k : Nat} (h1 : e.pg = p) (h2 : e.op = k) (h5 : 5 ≤ p) (d n : Int) : kI e d n = aR p ++ [eW d] ++ [UInt8.ofNat k] := by
  unfold kI
  rw [h1, h2, if_pos (by omega)]
theorem enc_pg {e : aL} {p k : Nat} (hp : p < 7) (hk : k < 256) (hN : EntN p k e) (h1 : e.pg = p) (h2 : e.op = k) (d n : Int) : pgB (kI e d n) = p ∧ pos p < (kI e d n).length ∧ bAt (kI e d n) (pos p) = k := by
  have hu : (UInt8.ofNat k).toNat = k := by rw [UInt8.toNat_ofNat', Nat.mod_eq_of_lt hk]
  have hc : p = 0 ∨ p = 1 ∨ p = 2 ∨ p = 3 ∨ p = 4 ∨ p = 5 ∨ p = 6 := by omega
  by_cases h5 : p < 5
  · rw [enc_lo h1 h2 h5]
    generalize e.ex.flatMap (jN d n) = T
    rcases hc with rfl | rfl | rfl | rfl | rfl | rfl | rfl
    · exact ⟨pgB_0 hk (hN.p0 rfl), Nat.zero_lt_succ _, hu⟩
    · exact ⟨pgB_1 _, by show 1 < (203 :: UInt8.ofNat k :: T).length; simp, hu⟩
    · exact ⟨pgB_2 _, by show 1 < (237 :: UInt8.ofNat k :: T).length; simp, hu⟩
    · exact ⟨pgB_3 hk (hN.p3 (.inl rfl)), by show 1 < (221 :: UInt8.ofNat k :: T).length; simp, hu⟩
    · exact ⟨pgB_4 hk (hN.p3 (.inr rfl)), by show 1 < (253 :: UInt8.ofNat k :: T).length; simp, hu⟩
    · omega
    · omega
  · rw [enc_hi h1 h2 (by omega)]
    rcases hc with rfl | rfl | rfl | rfl | rfl | rfl | rfl
    · omega
    · omega
    · omega
    · omega
    · omega
    · exact ⟨pgB_5 _, by show 3 < 4; decide, hu⟩
    · exact ⟨pgB_6 _, by show 3 < 4; decide, hu⟩
theorem posL {p : Nat} (h : p < 5) : pos p = (aR p).length := by unfold pos; rw [if_neg (by omega)]; rfl
/-- the numbers, read back -/
theorem enc_num {x : Ins} {e : aL} {p k : Nat} (F : Fnd11 x e p k) : gP p e (kI e (mF e (aE x).args) (lM e (aE x).args)) = (mF e (aE x).args, lM e (aE x).args) := by
  have a1 := F.fil.okd
  have a2 := F.fil.okn
  have hN := F.N.ex
  have hW := F.W.hi
  generalize mF e (aE x).args = d at *
  generalize lM e (aE x).args = n at *
  unfold exB at hN
  generalize hD : (Dof e.ex e.args) = D at *
  generalize hJ : (Jof e.ex e.args) = J at *
  dsimp only at hN
  have two : ∀ a b : Bool, ∀ l : List UInt8, (e.ex == l && (a && b)) = true → e.ex = l ∧ a = true ∧ b = true := fun a b l h => by
    obtain ⟨h1, h2⟩ := Bool.and_eq_true_iff.1 h
    obtain ⟨h3, h4⟩ := Bool.and_eq_true_iff.1 h2
    exact ⟨eq_of_beq h1, h3, h4⟩
  have no : ∀ {b : Bool}, (!b) = true → b = false := fun {b} h => by cases b; rfl; cases h
  by_cases h5 : p < 5
  · have hb : ∀ i, bAt (kI e d n) ((if 5 ≤ p then 2 else pos p + 1) + i) = bAt (e.ex.flatMap (jN d n)) i := fun i => by
      rw [enc_lo F.pg F.op h5, if_neg (by omega), posL h5, show (aR p).length + 1 = (aR p ++ [UInt8.ofNat k]).length by simp, bAt_mid]
    unfold gP
    generalize (if 5 ≤ p then 2 else pos p + 1) = q at *
    have h0 := hb 0
    have h1 := hb 1
    rw [Nat.add_zero] at h0
    generalize kI e d n = E at *
    rcases Bool.or_eq_true_iff.1 hN with g | hN
    · obtain ⟨e1, e2, e3⟩ := two _ _ _ g
      rw [e1, rdF, okN_none (no e2) a1, okN_none (no e3) a2]
    rcases Bool.or_eq_true_iff.1 hN with g | hN
    · obtain ⟨e1, e2, e3⟩ := two _ _ _ g
      rw [e1] at h0 ⊢
      have := okN_some e2 a1
      rw [rdF, if_pos rfl, rdF, h0, okN_none (no e3) a2]
      exact Prod.ext (sg_low this.1 this.2) rfl
    rcases Bool.or_eq_true_iff.1 hN with g | hN
    · obtain ⟨e1, e2, e3⟩ := two _ _ _ g
      rw [e1] at h0 a2 ⊢
      have := okN_some e3 a2
      rw [rdF, if_neg (by decide), if_pos rfl, rdF, h0, okN_none (no e2) a1]
      exact Prod.ext rfl (sg_low this.1 this.2)
    rcases Bool.or_eq_true_iff.1 hN with g | hN
    · obtain ⟨e1, e2, e3⟩ := two _ _ _ g
      rw [e1] at h0 a2 ⊢
      have := okN_some e3 a2
      rw [rdF, if_neg (by decide), if_neg (by decide), if_pos rfl, rdF, h0, okN_none (no e2) a1]
      exact Prod.ext rfl (by_low this.1 this.2)
    rcases Bool.or_eq_true_iff.1 hN with g | g
    · obtain ⟨e1, e2, e3⟩ := two _ _ _ g
      rw [e1] at h0 h1 a2 ⊢
      have := okN_some e3 a2
      rw [rdF, if_neg (by decide), if_neg (by decide), if_neg (by decide), rdF, h0, h1, okN_none (no e2) a1]
      exact Prod.ext rfl (word_low this.1 this.2)
    · obtain ⟨e1, e2, e3⟩ := two _ _ _ g
      rw [e1] at h0 h1 a2 ⊢
      have h8 := okN_some e3 a2
      have h9 := okN_some e2 a1
      rw [rdF, if_pos rfl, rdF, if_neg (by decide), if_neg (by decide), if_pos rfl, rdF, h0, h1]
      exact Prod.ext (sg_low h9.1 h9.2) (by_low h8.1 h8.2)
  · have hex := hW (by rw [F.pg]; omega)
    have hp : p = 5 ∨ p = 6 := by have := F.hp; omega
    have hb : bAt (kI e d n) 2 = (eW d).toNat := by
      rw [enc_hi F.pg F.op (by omega)]
      rcases hp with rfl | rfl <;> rfl
    have hd : D.isSome = true ∧ J.isSome = false := by
      rw [hex] at hN
      generalize D.isSome = a at *
      generalize J.isSome = b at *
      revert hN
      cases a <;> cases b <;> decide
    have := okN_some hd.1 a1
    unfold gP
    rw [hex, if_pos (by omega), rdF, if_pos rfl, rdF, hb, okN_none hd.2 a2]
    exact Prod.ext (sg_low this.1 this.2) rfl
theorem enc_siz {x : Ins} {e : aL} {p k : Nat} (F : Fnd11 x e p k) (d n : Int) : (kI e d n).length = gX e := by
  have h1 := enc_len e F.W d n
  have h2 := LA e.ex
  unfold gX
  omega
theorem enc_item {x : Ins} {e : aL} {p k : Nat} (F : Fnd11 x e p k) : itF (kI e (mF e (aE x).args) (lM e (aE x).args)) = ⟨1, (kI e (mF e (aE x).args) (lM e (aE x).args)).length, e.iop, (aE x).args, e.al⟩ := by
  have hnum := enc_num F
  have hsz := enc_siz F (mF e (aE x).args) (lM e (aE x).args)
  have hfil := (xK F.ok).2 F.fil
  obtain ⟨h1, h2, h3⟩ := enc_pg F.hp F.hk F.N F.pg F.op (mF e (aE x).args) (lM e (aE x).args)
  generalize mF e (aE x).args = d at *
  generalize lM e (aE x).args = n at *
  generalize kI e d n = E at *
  have hat := F.at'
  unfold itF itS
  rw [h1, h3, if_neg (by omega)]
  generalize atF p k = r at *
  obtain ⟨o, j⟩ := r
  dsimp only at hat
  subst hat
  dsimp only
  unfold itE jO
  rw [if_neg (by omega), hnum]
  dsimp only
  rw [hfil, hsz]
theorem find_nal {x : Ins} {e : aL} {j : Int} (h : cQ x = (some e, j)) : e.al = false := by
  have h2 := (kJ h).2.1
  unfold iA at h2
  have h3 := (Bool.and_eq_true_iff.1 h2).1
  unfold dL at h3
  have h4 := (Bool.and_eq_true_iff.1 h3).1
  cases ha : e.al
  · rfl
  · rw [ha] at h4; cases h4
/-- the first item of an encoding -/
theorem enc_first {x : Ins} {b : List UInt8} {j : Int} (h : jM x = (some b, j)) : 0 < b.length ∧ b.length ≤ 100 ∧ j = 0 ∧ itF b = ⟨1, b.length, x.op.data.toList, (aE x).args, false⟩ := by
  have hl := TR x
  unfold nZ at hl
  rw [h] at hl
  unfold jM at h
  cases hR : cQ x with
  | mk o k =>
  rw [hR] at h
  cases o with
  | none => cases h
  | some e =>
    dsimp only at h
    injection h with h1 h2
    injection h1 with h1
    obtain ⟨p, q, F⟩ := fnd11 hR
    have h3 := enc_item F
    rw [h1, find_nal hR] at h3
    have h4 := enc_siz F (mF e (aE x).args) (lM e (aE x).args)
    rw [h1] at h4
    have hk := (kJ hR).2.2.1
    refine ⟨by rw [h4]; unfold gX; omega, hl, by rw [← h2]; exact hk, ?_⟩
    rw [h3, F.iop]
theorem enc_more {x : Ins} {b more : List UInt8} {j : Int} (h : jM x = (some b, j)) : itF (b ++ more) = ⟨1, b.length, x.op.data.toList, (aE x).args, false⟩ := by
  have h1 := (enc_first h).2.2.2
  rw [GX (by rw [h1]; show ¬ (1 : Int) = 4; decide), h1]
end Go.Proofs.YtmpmciccgempeaaGreatDoor
