/-
  breadboardref13.Same; slices.EqualFunc over items with decode.Same; items.Check. Conditions: sizes.
-/
import Derived.Test.YtnbmbcjnncbaiaaGreatDoorJ5
namespace Go.Proofs.YtnbmbcjnncbaiaaGreatDoor
open Go.RowKit Go.Shelf Go.Sort

/-- The same items? (a name that the walk does not open) -/
def lsEq (A B : List It) : Bool := (A.length == B.length) && (A.zip B).all (fun z => itEq z.1 z.2)
theorem lsEq_iff : ∀ {A B : List It}, lsEq A B = true ↔ A = B
  | [], [] => by simp [lsEq]
  | [], _ :: _ => by simp [lsEq]
  | _ :: _, [] => by simp [lsEq]
  | x :: A, y :: B => by
    have ih := lsEq_iff (A := A) (B := B)
    unfold lsEq at ih ⊢
    rw [List.zip_cons_cons, List.all_cons]
    simp only [Bool.and_eq_true, beq_iff_eq, List.length_cons, Nat.add_right_cancel_iff, List.cons.injEq, itEq_iff] at ih ⊢
    rw [← ih]
    constructor
    · rintro ⟨h1, h2, h3⟩; exact ⟨h2, h1, h3⟩
    · rintro ⟨h1, h2, h3⟩; exact ⟨h2, h1, h3⟩
theorem lsEq_no {A B : List It} (h : ¬ A = B) : lsEq A B = false := by
  cases e : lsEq A B
  · rfl
  · exact absurd (lsEq_iff.1 e) h
theorem lsEq_len {A B : List It} (h : ¬ A.length = B.length) : lsEq A B = false := lsEq_no (fun e => h (by rw [e]))
theorem lsEq_at {A B : List It} (k : Nat) (h1 : k < A.length) (h2 : k < B.length) (h : itEq A[k] B[k] = false) : lsEq A B = false := lsEq_no (fun e => by
  subst e
  rw [itEq_iff.2 rfl] at h
  cases h)
set_option maxHeartbeats 4000000 in
set_option maxRecDepth 100000 in
theorem SameL_any (p q : Blocks) (v1 v2 : Value) (l1 l2 : List It) (w : World) (h1 : SlR itR w p v1 l1) (h2 : SlR itR w q v2 l2) :
    Calls Tryz.prog 31 #[v1, v2] w fun e w' => e = .returned (.bool (lsEq l1 l2)) ∧ RowKit.Below w.heap.size w w' := by
  have H1 := Lib.hid h1
  have H2 := Lib.hid h2
  obtain ⟨a1, c1, rfl, hc1, hm1, _⟩ := h1.it
  obtain ⟨a2, c2, rfl, hc2, hm2, _⟩ := h2.it
  have HN : Hid _ := @lsEq_len l1 l2
  have HA : Hid _ := @lsEq_at l1 l2
  have HY : Hid _ := @lsEq_iff l1 l2
  clear h1 h2
  generalize lsEq l1 l2 = R at *
  by_cases hl : l1.length = l2.length
  · have HE := Lib.hid hl
    rw [← hl] at hc2 H2 ⊢
    clear hl HN
    go_enter Tryz.func31, Tryz.ntmps31
    go_wp2
    go_loopw [5] (fun i wr => ∃ k : Nat, k ≤ l1.length ∧ i = .int .i64 k ∧ RowKit.Below w.heap.size w wr ∧ l1.take k = l2.take k) (fun i _ => l1.length - (intOf i).toNat)
    case atStart => exact ⟨0, Nat.zero_le _, rfl, Below.refl _ _, rfl⟩
    case round =>
      obtain ⟨k, hk, rfl, hb, ht⟩ := hrel
      have HT := Lib.hid ht
      have HB := Lib.hid hb
      clear ht hb
      by_cases hlt : k < l1.length
      · have hlt2 : k < l2.length := by have := HE.out; omega
        obtain ⟨a8, c8, e8, _, _, g8⟩ := (H1.out.below HB.out).it
        injection e8 with e8 e10 e11
        clear e10
        subst e8 e11
        obtain ⟨b1, o1, ra1, rc1, va1, vc1, rfl, _, x0, x1, x2, x3, x4, s1, t1⟩ := g8 k l1[k] (List.getElem?_eq_getElem hlt)
        have e9' := H2.out.below HB.out
        rw [HE.out] at e9'
        obtain ⟨a9, c9, e9, _, _, g9⟩ := e9'.it
        injection e9 with e9 e10 e11
        clear e10
        subst e9 e11
        obtain ⟨b2, o2, ra2, rc2, va2, vc2, rfl, _, y0, y1, y2, y3, y4, s2, t2⟩ := g9 k l2[k] (List.getElem?_eq_getElem hlt2)
        have HS := Lib.hid (fun h => take_succ_eq hlt hlt2 HT.out h)
        have HAK := Lib.hid (HA.out k hlt hlt2)
        have HS1 := Lib.hid s1
        have HS2 := Lib.hid s2
        have HT1 := Lib.hid t1
        have HT2 := Lib.hid t2
        have HI : Hid _ := @itEq_iff l1[k] l2[k]
        clear g8 g9 s1 s2 t1 t2 e9'
        generalize l1[k] = x at *
        generalize l2[k] = y at *
        have HSM := Lib.hid (fun W (hb : RowKit.Below wr.heap.size wr W) => Same12_it x y p q (.agg (itCs x ra1 rc1 va1 vc1)) (.agg (itCs y ra2 rc2 va2 vc2)) W ⟨ra1, rc1, va1, vc1, rfl, HS1.out.below hb, HT1.out.below hb⟩ ⟨ra2, rc2, va2, vc2, rfl, HS2.out.below hb, HT2.out.below hb⟩)
        have HD0 : Hid (RowKit.Below wr.heap.size wr wr.drew) := Lib.hid (Below.refl _ _).drew
        unfold itCs at HSM
        generalize itEq x y = bi at *
        obtain ⟨k1, R1, op1, ar1, al1⟩ := x
        obtain ⟨k2, R2, op2, ar2, al2⟩ := y
        dsimp only at x0 x1 x2 x3 x4 y0 y1 y2 y3 y4 HSM
        cases bi
        · have HR : Hid (R = false) := Lib.hid (HAK.out rfl)
          go_upto_region 6 with fail
          go_region_law ((go_simp; (go_at_call 20; refine (HSM.out _ (by first | exact Below.refl _ _ | exact HD0.out)).mono ?_; rintro e w4 ⟨rfl, hb4⟩; have HB4 := Lib.hid hb4; clear hb4); dsimp only))
          all_goals
            go_wp2
            go_ret
            exact ⟨ret_bool HR.out.symm, HB.out.trans (by first | exact HB4.out.mono HB.out.size | exact ((Below.refl _ _).drew.trans HB4.out).mono HB.out.size)⟩
        · have HX := Lib.hid (HS.out (HI.out.1 rfl))
          go_upto_region 6 with fail
          go_region_law ((go_simp; (go_at_call 20; refine (HSM.out _ (by first | exact Below.refl _ _ | exact HD0.out)).mono ?_; rintro e w4 ⟨rfl, hb4⟩; have HB4 := Lib.hid hb4; clear hb4); dsimp only))
          all_goals
            go_wp2
            go_roundw
            case rel => exact ⟨k + 1, by omega, by go_num, HB.out.trans (by first | exact HB4.out.mono HB.out.size | exact ((Below.refl _ _).drew.trans HB4.out).mono HB.out.size), HX.out⟩
            case measure => simp [intOf]; omega
      · have hkl : k = l1.length := by omega
        have HR : Hid (R = true) := Lib.hid (HY.out.2 (by
          have e := HT.out
          rw [hkl, List.take_length, HE.out, List.take_length] at e
          exact e))
        subst hkl
        go_wp2
        go_ret
        exact ⟨ret_bool HR.out.symm, HB.out⟩
  · have HR : Hid (R = false) := Lib.hid (HN.out hl)
    have hl' : ¬ (l1.length : Int) = (l2.length : Int) := by omega
    go_enter Tryz.func31, Tryz.ntmps31
    go_wp2
    go_ret
    exact ⟨ret_bool HR.out.symm, Below.refl _ _⟩
end Go.Proofs.YtnbmbcjnncbaiaaGreatDoor
