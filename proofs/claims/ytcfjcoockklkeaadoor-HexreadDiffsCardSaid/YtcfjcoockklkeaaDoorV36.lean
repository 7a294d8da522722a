/-
  breadboardlaw05.HexreadDiffs. Conditions: the addresses fit their type; the library's table as its initialiser lays it.
-/
import Derived.Test.YtcfjcoockklkeaaDoorV34
import Derived.Test.YtcfjcoockklkeaaDoorV35
import Derived.Test.YtcfjcoockklkeaaDoorV21
namespace Go.Proofs.YtcfjcoockklkeaaDoor
open Go.RowKit Go.Sort

set_option maxHeartbeats 400000 in
theorem EqualInt_any (p q : Blocks) (v1 v2 : Value) (l1 l2 : List Int) (w : World) (h1 : SlR intR w p v1 l1) (h2 : SlR intR w q v2 l2) :
    Calls Tryd.prog 42 #[v1, v2] w fun e w' => e = .returned (.bool (decide (l1 = l2))) ∧ ∃ n, w' = w.drewN n := by
  obtain ⟨a1, c1, rfl, hc1, hm1, g1⟩ := h1.int
  obtain ⟨a2, c2, rfl, hc2, hm2, g2⟩ := h2.int
  clear h1 h2
  by_cases hl : l1.length = l2.length
  · have HL := Lib.hid hl
    rw [← hl] at hc2 ⊢
    clear hl
    go_enter Tryd.func42, Tryd.ntmps42
    go_wp2
    go_loopw [5, 13] (fun _ i wr => ∃ k n : Nat, k ≤ l1.length ∧ i = .int .i64 k ∧ wr = w.drewN n ∧ l1.take k = l2.take k) (fun _ i _ => l1.length - (intOf i).toNat)
    case atStart => exact ⟨0, 0, Nat.zero_le _, rfl, rfl, rfl⟩
    case round =>
      obtain ⟨k, n, hk, rfl, rfl, ht⟩ := hrel
      have HT := Lib.hid ht
      clear ht
      by_cases hlt : k < l1.length
      · have hlt2 : k < l2.length := by have := HL.out; omega
        obtain ⟨b1, o1, rfl, _, d1⟩ := g1 k l1[k] (List.getElem?_eq_getElem hlt)
        obtain ⟨b2, o2, rfl, _, e1⟩ := g2 k l2[k] (List.getElem?_eq_getElem hlt2)
        clear g1 g2
        have HS := Lib.hid (take_succ_eq hlt hlt2 HT.out)
        have HN : Hid (l1[k] ≠ l2[k] → l1 ≠ l2) := fun h e => h (by simp only [e])
        generalize l1[k] = x at *
        generalize l2[k] = y at *
        cases hxy : (x == y)
        rotate_left
        · go_wp2
          go_quiet (fail)
          go_wp2
          go_roundw
          case rel => exact ⟨k + 1, n + nq, by omega, by go_num, rfl, HS.out (eq_of_beq hxy)⟩
          case measure => simp [intOf]; omega
        · go_wp2
          go_quiet (fail)
          go_wp2
          go_ret
          exact ⟨ret_bool (decide_eq_false (HN.out (by simpa using hxy))).symm, _, drewN2 _ _ _⟩
      · go_wp2
        go_ret
        exact ⟨ret_bool (decide_eq_true (by have h1 := HT.out; have h2 := HL.out; rwa [List.take_of_length_le (by omega), List.take_of_length_le (by omega)] at h1)).symm, n, rfl⟩
  · go_enter Tryd.func42, Tryd.ntmps42
    go_wp2
    go_ret
    exact ⟨by simp; intro h; exact hl (by rw [h]), 0, rfl⟩
theorem difI_comm (S T : ImgS) : difI S T = difI T S := by unfold difI; rw [difL_comm]
theorem Diff_nil (b n : Nat) (S : ImgS) (w : World) (h : ImgC w b S.1 S.2 n) (hT : Deb w) :
    Calls Tryd.prog 41 #[.pointer (some ⟨b, 0, none⟩), .pointer none] w fun e w' => ∃ a c, e = .returned (.slice a (cellsOf S.1 S.2).length c) ∧ Below w.heap.size w w' :=
  (Diff_any (some ⟨b, 0, none⟩) none S nilI w (.inr ⟨b, n, rfl, h⟩) (.inl ⟨rfl, rfl⟩) hT).mono fun e w' ⟨v', h1, h2, h3⟩ => by
    obtain ⟨a, c, hv, _⟩ := h2
    refine ⟨a, c, ?_, h3⟩
    rw [h1, hv]
    have : (difI S nilI).length = (cellsOf S.1 S.2).length := by unfold difI; rw [List.length_map]; exact difL_empty S
    rw [this]
theorem Diff05_of (p q : Blocks) (va vb : Value) (S T : ImgS) (w : World) (ha : SlR cellR w p va (cellsOf S.1 S.2)) (hb : SlR cellR w q vb (cellsOf T.1 T.2)) :
    Calls Tryd.prog 43 #[va, vb] w fun e w' => ∃ v', e = .returned v' ∧ SlR intR w' (fun _ => True) v' (difI S T) ∧ Below w.heap.size w w' :=
  (Diff05_any p q va vb _ _ w ha hb (cellsOf_len _ _) (cellsOf_len _ _)).mono fun e w' ⟨v', h1, h2, h3⟩ => by
    refine ⟨v', h1, ?_, h3⟩
    have e : dI (cellsOf S.1 S.2) (cellsOf T.1 T.2) = difI S T := by unfold dI difI; rw [dif05_of]
    rw [e] at h2
    exact h2.slR (fun _ h => h.elim) (fun _ _ => trivial)
theorem slr_form {α : Type} {R : Rep α} {w : World} {p : Blocks} {v : Value} {l : List α} (h : SlR R w p v l) : ∃ a c, v = .slice a l.length c := by
  obtain ⟨a, c, hv, _⟩ := h
  exact ⟨a, c, hv⟩
theorem Both.form {w0 w : World} {b n : Nat} {cv : Value} {S : ImgS} (h : Both w0 w b cv S n) : ∃ a c, cv = .slice a (cellsOf S.1 S.2).length c := slr_form h.cells.sl
theorem below_of_drewN {w w' : World} {n : Nat} (h : w' = w.drewN n) : Below w.heap.size w w' := by subst h; exact below_drewN _ _ _
set_option maxHeartbeats 8000000 in
set_option maxRecDepth 100000 in
theorem Diffs_any (p q : Blocks) (v u : Value) (R U : List (Int × List UInt8)) (w : World) (h : SlR runIR w p v R) (hu : SlR runIR w q u U) (hT : Deb w) (hA : ∀ r ∈ R, -9223372036854775808 ≤ r.1 ∧ r.1 ≤ 9223372036854775807) (hB : ∀ r ∈ U, -9223372036854775808 ≤ r.1 ∧ r.1 ≤ 9223372036854775807) :
    Calls Tryd.prog 11 #[v, u] w fun e w' => e = .returned (.bool true) ∧ Below w.heap.size w w' := by
  have HT := Lib.hid hT
  have HF1 := Lib.hid (fun (W : World) (hb : Below w.heap.size w W) => Few_any _ v R W (h.old.below hb))
  have HF2 := Lib.hid (fun (W : World) (hb : Below w.heap.size w W) => Few_any _ u U W (hu.old.below hb))
  have HBY := Lib.hid (fun (W : World) (hf : fewB R = true) (hb : Below w.heap.size w W) => Build_yes _ v R W (h.old.below hb) (hT.below hb) hA hf)
  have HBN := Lib.hid (fun (W : World) (hf : fewB R = false) (hb : Below w.heap.size w W) => Build_no _ v R W (h.old.below hb) hf)
  have HUY := Lib.hid (fun (W : World) (hf : fewB U = true) (hb : Below w.heap.size w W) => Build_yes _ u U W (hu.old.below hb) (hT.below hb) hB hf)
  have HUN := Lib.hid (fun (W : World) (hf : fewB U = false) (hb : Below w.heap.size w W) => Build_no _ u U W (hu.old.below hb) hf)
  have HW0 := Lib.hid (Below.refl w.heap.size w)
  clear h hu hT hA hB
  generalize hS : putF R = S at *
  generalize hV : putF U = V at *
  clear hS hV
  generalize hf1 : fewB R = f1 at *
  generalize hf2 : fewB U = f2 at *
  clear hf1 hf2
  cases f1 with
  | false =>
    cases f2 with
    | false =>
      have GBN := Lib.hid (fun W => HBN.out W rfl)
      have GUN := Lib.hid (fun W => HUN.out W rfl)
      clear HBN HUN HBY HUY
      go_enter Tryd.func11, Tryd.ntmps11
      go_wp2_with (first
        | (go_at_call 12; with_reducible refine (GBN.out _ HW0.out).mono ?_; rintro e w1 ⟨rfl, rfl⟩)
        | (go_at_call 12; with_reducible refine (GUN.out _ HW0.out).mono ?_; rintro e w1 ⟨rfl, rfl⟩)
        | (go_at_call 31; with_reducible refine (alive5_any _ HT.out).mono ?_; rintro e w2 ⟨rfl, hb⟩; have HB2 := Lib.hid hb; clear hb)
        | (go_at_call 14; with_reducible refine (HF1.out _ HB2.out).mono ?_; rintro e w3 ⟨rfl, rfl⟩))
      go_ret
      exact ⟨rfl, HB2.out⟩
    | true =>
      have GBN := Lib.hid (fun W => HBN.out W rfl)
      have GUY := Lib.hid (fun W => HUY.out W rfl)
      clear HBN HUN HBY HUY
      go_enter Tryd.func11, Tryd.ntmps11
      go_wp2_with (first
        | (go_at_call 12; with_reducible refine (GBN.out _ HW0.out).mono ?_; rintro e w1 ⟨rfl, rfl⟩)
        | (go_at_call 12; with_reducible refine (GUY.out _ HW0.out).mono ?_; rintro e w1 ⟨b, n, cv, rfl, hbo⟩; have HB1 := Lib.hid hbo.below; clear hbo)
        | (go_at_call 31; with_reducible refine (alive5_any _ (HT.out.below HB1.out)).mono ?_; rintro e w2 ⟨rfl, hb⟩; have HB2 := Lib.hid (HB1.out.trans (hb.mono HB1.out.size)); clear hb)
        | (go_at_call 14; with_reducible refine (HF1.out _ HB2.out).mono ?_; rintro e w3 ⟨rfl, rfl⟩))
      go_ret
      exact ⟨rfl, HB2.out⟩
  | true =>
    cases f2 with
    | false =>
      have GBY := Lib.hid (fun W => HBY.out W rfl)
      have GUN := Lib.hid (fun W => HUN.out W rfl)
      clear HBN HUN HBY HUY
      go_enter Tryd.func11, Tryd.ntmps11
      go_wp2_with (first
        | (go_at_call 12; with_reducible refine (GBY.out _ HW0.out).mono ?_; rintro e w1 ⟨b, n, cv, rfl, hbo⟩; have HB1 := Lib.hid hbo.below; clear hbo)
        | (go_at_call 12; with_reducible refine (GUN.out _ HB1.out).mono ?_; rintro e w1' ⟨rfl, rfl⟩)
        | (go_at_call 31; with_reducible refine (alive5_any _ (HT.out.below HB1.out)).mono ?_; rintro e w2 ⟨rfl, hb⟩; have HB2 := Lib.hid (HB1.out.trans (hb.mono HB1.out.size)); clear hb)
        | (go_at_call 14; with_reducible refine (HF1.out _ HB2.out).mono ?_; rintro e w3 ⟨rfl, rfl⟩)
        | (go_at_call 14; with_reducible refine (HF2.out _ HB2.out).mono ?_; rintro e w4 ⟨rfl, rfl⟩))
      go_ret
      exact ⟨rfl, HB2.out⟩
    | true =>
      have HDF := Lib.hid (fun (b n b2 n2 : Nat) (cv cv2 : Value) (w0 w02 W : World) (h : Both w0 W b cv S n) (h2 : Both w02 W b2 cv2 V n2) (hT : Deb W) => Diff_any (some ⟨b, 0, none⟩) (some ⟨b2, 0, none⟩) S V W (.inr ⟨b, n, rfl, h.img⟩) (.inr ⟨b2, n2, rfl, h2.img⟩) hT)
      have HDG := Lib.hid (fun (b n b2 n2 : Nat) (cv cv2 : Value) (w0 w02 W : World) (h : Both w0 W b cv S n) (h2 : Both w02 W b2 cv2 V n2) (hT : Deb W) => Diff_any (some ⟨b2, 0, none⟩) (some ⟨b, 0, none⟩) V S W (.inr ⟨b2, n2, rfl, h2.img⟩) (.inr ⟨b, n, rfl, h.img⟩) hT)
      have HDN := Lib.hid (fun (b n : Nat) (cv : Value) (w0 W : World) (h : Both w0 W b cv S n) (hT : Deb W) => Diff_nil b n S W h.img hT)
      have HD5 := Lib.hid (fun (b n b2 n2 : Nat) (cv cv2 : Value) (w0 w02 W : World) (h : Both w0 W b cv S n) (h2 : Both w02 W b2 cv2 V n2) => Diff05_of _ _ cv cv2 S V W h.cells.sl h2.cells.sl)
      have HSM := Lib.hid (fun (b n b2 n2 : Nat) (cv cv2 : Value) (w0 w02 W : World) (h : Both w0 W b cv S n) (h2 : Both w02 W b2 cv2 V n2) (hT : Deb W) => ImgSame_any _ _ _ _ W h.imgV h2.imgV hT)
      rw [difI_comm V S] at HDG
      have hem : decide (runsOf S.1 S.2 = runsOf V.1 V.2) = decide (difI S V = []) := by rw [decide_eq_decide, same_runs, ← difL_nil]; unfold difI; rw [List.map_eq_nil_iff]
      rw [hem] at HSM
      have hlz : (((difI S V).length : Int) == 0) = decide (difI S V = []) := by
        cases h : difI S V with
        | nil => rfl
        | cons x l => simp; omega
      have HEQ := Lib.hid (fun (p q : Blocks) (v1 v2 : Value) (W : World) (h1 : SlR intR W p v1 (difI S V)) (h2 : SlR intR W q v2 (difI S V)) => EqualInt_any p q v1 v2 (difI S V) (difI S V) W h1 h2)
      rw [decide_eq_true rfl] at HEQ
      have HFO := Lib.hid (fun (b n : Nat) (cv : Value) (w0 W : World) (h : Both w0 W b cv S n) => h.form)
      have hcl : ((cellsOf S.1 S.2).length : Int) ≤ 65536 := by have := cellsOf_len S.1 S.2; omega
      clear hem
      generalize (cellsOf S.1 S.2).length = cl at *
      generalize decide (difI S V = []) = em at *
      generalize difI S V = L at *
      have GBY := Lib.hid (fun W => HBY.out W rfl)
      have GUY := Lib.hid (fun W => HUY.out W rfl)
      have tok1 : True := trivial
      clear HBN HUN HBY HUY
      go_enter Tryd.func11, Tryd.ntmps11
      go_wp2_with (first
        | (go_at_call 12; with_reducible refine (GBY.out _ HW0.out).mono ?_; rintro e w1 ⟨b, n, cv, rfl, hbo⟩; obtain ⟨ca, cc, rfl⟩ := HFO.out _ _ _ _ _ hbo; have HB1 := Lib.hid hbo; clear hbo)
        | (go_at_call 12; with_reducible refine (GUY.out _ HB1.out.below).mono ?_; rintro e w2 ⟨b2, n2, cv2, rfl, hbo⟩; have HV1 := Lib.hid hbo; have HS1 := Lib.hid (HB1.out.later hbo.below); clear hbo)
        | (go_at_call 41; with_reducible refine (HDF.out b n b2 n2 _ _ _ _ _ HS1.out HV1.out (HT.out.below HS1.out.below)).mono ?_; rintro e w3 ⟨v9, rfl, hs, hb⟩; have HV2 := Lib.hid (HV1.out.later hb); have HS2 := Lib.hid (HS1.out.later hb); obtain ⟨a9, c9, rfl⟩ := slr_form hs; have HD2 := Lib.hid hs; clear hs hb)
        | (go_at_call 31; with_reducible refine (alive5_any _ (HT.out.below HS2.out.below)).mono ?_; rintro e w4 ⟨rfl, hb⟩; have HV3 := Lib.hid (HV2.out.later hb); have HS3 := Lib.hid (HS2.out.later hb); have HD3 := Lib.hid (HD2.out.below hb); clear hb)
        | (go_at_call 43; with_reducible refine (HD5.out b n b2 n2 _ _ _ _ _ HS3.out HV3.out).mono ?_; rintro e w5 ⟨v45, rfl, hs, hb⟩; have HV4 := Lib.hid (HV3.out.later hb); have HS4 := Lib.hid (HS3.out.later hb); have HD4 := Lib.hid (HD3.out.below hb); have HX4 := Lib.hid hs; clear hs hb)
        | (go_at_call 42; have _t := tok1; with_reducible refine (HEQ.out _ _ _ _ _ HD4.out HX4.out).mono ?_; rintro e w6 ⟨rfl, nq, hw⟩; have hb := below_of_drewN hw; have HV5 := Lib.hid (HV4.out.later hb); have HS5 := Lib.hid (HS4.out.later hb); have HD5' := Lib.hid (HD4.out.below hb); clear hb hw tok1 _t)
        | (go_at_call 29; with_reducible refine (HSM.out b n b2 n2 _ _ _ _ _ HS5.out HV5.out (HT.out.below HS5.out.below)).mono ?_; rintro e w7 ⟨rfl, hb⟩; have HV6 := Lib.hid (HV5.out.later hb); have HS6 := Lib.hid (HS5.out.later hb); have HD6 := Lib.hid (HD5'.out.below hb); clear hb)
        | (go_at_call 41; with_reducible refine (HDG.out b n b2 n2 _ _ _ _ _ HS6.out HV6.out (HT.out.below HS6.out.below)).mono ?_; rintro e w8 ⟨v60, rfl, hs, hb⟩; have HS7 := Lib.hid (HS6.out.later hb); have HD7 := Lib.hid (HD6.out.below hb); have HX7 := Lib.hid hs; clear hs hb)
        | (go_at_call 42; with_reducible refine (HEQ.out _ _ _ _ _ HX7.out HD7.out).mono ?_; rintro e w9 ⟨rfl, nq2, hw⟩; have hb := below_of_drewN hw; have HS8 := Lib.hid (HS7.out.later hb); clear hb hw)
        | (go_at_call 41; with_reducible refine (HDN.out b n _ _ _ HS8.out (HT.out.below HS8.out.below)).mono ?_; rintro e w10 ⟨a66, c66, rfl, hb⟩; have HS9 := Lib.hid (HS8.out.later hb); clear hb))
      go_ret
      exact ⟨rfl, HS9.out.below⟩
end Go.Proofs.YtcfjcoockklkeaaDoor
