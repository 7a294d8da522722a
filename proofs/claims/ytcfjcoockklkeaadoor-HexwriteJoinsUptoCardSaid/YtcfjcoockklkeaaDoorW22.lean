/-
  breadboardref02.Same, breadboardlaw04.HexwriteSame. Conditions: the addresses fit their type; the library's table as its initialiser lays it.
-/
import Derived.Test.YtcfjcoockklkeaaDoorW21
namespace Go.Proofs.YtcfjcoockklkeaaDoor
open Go.RowKit

deriving instance DecidableEq for CellV
def celEq (x y : CellV) : Bool := decide (x = y)
theorem celEq_iff {x y : CellV} : celEq x y = true ↔ x = y := by simp [celEq]
theorem celEq_no {x y : CellV} : celEq x y = false ↔ x ≠ y := by simp [celEq]
theorem celEq_is (x y : CellV) : celEq x y = (decide ((x.addr : Int) = y.addr) && decide ((x.byte.toNat : Int) = y.byte.toNat)) := by
  obtain ⟨a, b⟩ := x
  obtain ⟨c, d⟩ := y
  unfold celEq
  rw [Bool.eq_iff_iff]
  simp only [decide_eq_true_eq, Bool.and_eq_true, CellV.mk.injEq]
  constructor
  · rintro ⟨rfl, rfl⟩; simp
  · rintro ⟨h1, h2⟩
    exact ⟨by omega, UInt8.toNat_inj.1 (by omega)⟩
theorem below_drewN (B : Nat) (w : World) (n : Nat) : Below B w (w.drewN n) := ⟨rfl, rfl, rfl, Nat.le_refl _, fun _ _ => rfl⟩
/-- '!=' on two cells. -/
theorem run_neqCel (x y : CellV) (w : World) : (binOp .neq 81 (.agg #[.int .i64 x.addr, .int .u8 x.byte.toNat]) (.agg #[.int .i64 y.addr, .int .u8 y.byte.toNat])).run Tryd.prog w = .ok (.bool (!celEq x y)) w := by
  have hS : Tryd.prog.underlying 81 = some (.struct (Tryd.prog.fieldsOf 81)) := by kernel_rfl
  have hp : Tryd.prog.stoodInHeld 81 = false := by kernel_rfl
  rw [run_neq_struct, show (10000 : Nat) = 9999 + 1 from rfl, run_equalIn_agg w 9999 81 _ _ hS hp, celEq_is]
  simp only [Program.fieldsOf, Tryd.underlying81]
  generalize (x.addr : Int) = a
  generalize (y.addr : Int) = b
  generalize (x.byte.toNat : Int) = c
  generalize (y.byte.toNat : Int) = d
  go_simp
  by_cases h1 : a = b <;> by_cases h2 : c = d <;> simp [h1, h2]
theorem take_succ_eq {α : Type} {l1 l2 : List α} {k : Nat} (h1 : k < l1.length) (h2 : k < l2.length) (ht : l1.take k = l2.take k) (he : l1[k] = l2[k]) : l1.take (k + 1) = l2.take (k + 1) := by
  rw [List.take_succ_eq_append_getElem h1, List.take_succ_eq_append_getElem h2, ht, he]
set_option maxRecDepth 100000 in
set_option maxHeartbeats 1000000 in
theorem Same02_any (p q : Blocks) (v1 v2 : Value) (l1 l2 : List CellV) (w : World) (h1 : SlR cellR w p v1 l1) (h2 : SlR cellR w q v2 l2) :
    Calls Tryd.prog 17 #[v1, v2] w fun e w' => e = .returned (.bool (decide (l1 = l2))) ∧ Below w.heap.size w w' := by
  obtain ⟨a1, c1, rfl, hc1, hm1, g1⟩ := h1.cel
  obtain ⟨a2, c2, rfl, hc2, hm2, g2⟩ := h2.cel
  clear h1 h2
  by_cases hl : l1.length = l2.length
  · have HL := Lib.hid hl
    rw [← hl] at hc2 ⊢
    clear hl
    go_enter Tryd.func17, Tryd.ntmps17
    go_wp2
    go_loopw [5] (fun i wr => ∃ k n : Nat, k ≤ l1.length ∧ i = .int .i64 k ∧ wr = w.drewN n ∧ l1.take k = l2.take k) (fun i _ => l1.length - (intOf i).toNat)
    case atStart => exact ⟨0, 0, Nat.zero_le _, rfl, rfl, rfl⟩
    case round =>
      obtain ⟨k, n, hk, rfl, rfl, ht⟩ := hrel
      have HT := Lib.hid ht
      clear ht
      by_cases hlt : k < l1.length
      · have hlt2 : k < l2.length := by have := HL.out; omega
        obtain ⟨b1, o1, rfl, _, d1, d2⟩ := g1 k l1[k] (List.getElem?_eq_getElem hlt)
        obtain ⟨b2, o2, rfl, _, e1, e2⟩ := g2 k l2[k] (List.getElem?_eq_getElem hlt2)
        clear g1 g2
        have HS := Lib.hid (take_succ_eq hlt hlt2 HT.out)
        have HN : Hid (l1[k] ≠ l2[k] → l1 ≠ l2) := fun h e => h (by simp only [e])
        generalize l1[k] = x at *
        generalize l2[k] = y at *
        have hop := run_neqCel x y
        by_cases hxy : celEq x y = true
        · go_wp2
          go_quiet (fail)
          go_wp2
          go_roundw
          case rel => exact ⟨k + 1, n + nq, by omega, by go_num, rfl, HS.out (celEq_iff.1 hxy)⟩
          case measure => simp [intOf]; omega
        · have hxy : celEq x y = false := by simpa using hxy
          go_wp2
          go_quiet (fail)
          go_wp2
          go_ret
          exact ⟨ret_bool (decide_eq_false (HN.out (celEq_no.1 hxy))).symm, (below_drewN _ _ _).trans (below_drewN _ _ _)⟩
      · go_wp2
        go_ret
        exact ⟨ret_bool (decide_eq_true (by have h1 := HT.out; have h2 := HL.out; rwa [List.take_of_length_le (by omega), List.take_of_length_le (by omega)] at h1)).symm, below_drewN _ _ _⟩
  · go_enter Tryd.func17, Tryd.ntmps17
    go_wp2
    go_ret
    exact ⟨by simp; intro h; exact hl (by rw [h]), Below.refl _ _⟩
theorem bytes_eq (a b : List UInt8) : ((⟨a.toArray⟩ : ByteArray).toList == (⟨b.toArray⟩ : ByteArray).toList) = decide (a = b) := by
  rw [ByteArray.toList_eq, ByteArray.toList_eq, Bool.eq_iff_iff]
  simp
theorem text_same (S T : ImgS) : decide (textOf 16 (runsOf S.1 S.2) = textOf 16 (runsOf T.1 T.2)) = decide (cellsOf S.1 S.2 = cellsOf T.1 T.2) := by
  rw [decide_eq_decide, ← same_runs]
  constructor
  · intro h
    have := text_inj (runs_sep _ _) (runs_sep _ _) h
    rw [runs_cells, runs_cells] at this
    exact same_runs.2 this
  · intro h; rw [h]
theorem dump_same (S T : ImgS) : decide (dumpOf (runsOf S.1 S.2) = dumpOf (runsOf T.1 T.2)) = decide (cellsOf S.1 S.2 = cellsOf T.1 T.2) := by
  rw [decide_eq_decide, ← same_runs]
  constructor
  · intro h
    have := dump_inj (runs_sep _ _) (runs_sep _ _) h
    rw [runs_cells, runs_cells] at this
    exact same_runs.2 this
  · intro h; rw [h]
theorem Both.writes {w0 w : World} {b n : Nat} {cv : Value} {S : ImgS} (h : Both w0 w b cv S n) (hT : Deb w) :
    Calls Tryd.prog 18 #[.pointer (some ⟨b, 0, none⟩)] w fun e w' => e = .returned (.string ⟨(textOf 16 (runsOf S.1 S.2)).toArray⟩) ∧ Below w.heap.size w w' := Write_any _ _ w h.imgV hT (runs_len _ _)
set_option maxHeartbeats 4000000 in
set_option maxRecDepth 100000 in
theorem Same_any (p q : Blocks) (v u : Value) (R U : List (Int × List UInt8)) (w : World) (h : SlR runIR w p v R) (hu : SlR runIR w q u U) (hT : Deb w) (hA : ∀ r ∈ R, -9223372036854775808 ≤ r.1 ∧ r.1 ≤ 9223372036854775807) (hB : ∀ r ∈ U, -9223372036854775808 ≤ r.1 ∧ r.1 ≤ 9223372036854775807) :
    Calls Tryd.prog 4 #[v, u] w fun e w' => e = .returned (.bool true) ∧ Below w.heap.size w w' := by
  have HT := Lib.hid hT
  have HF1 := Lib.hid (fun (W : World) (hb : Below w.heap.size w W) => Few_any _ v R W (h.old.below hb))
  have HF2 := Lib.hid (fun (W : World) (hb : Below w.heap.size w W) => Few_any _ u U W (hu.old.below hb))
  have HBY := Lib.hid (fun (W : World) (hf : fewB R = true) (hb : Below w.heap.size w W) => Build_yes _ v R W (h.old.below hb) (hT.below hb) hA hf)
  have HBN := Lib.hid (fun (W : World) (hf : fewB R = false) (hb : Below w.heap.size w W) => Build_no _ v R W (h.old.below hb) hf)
  have HUY := Lib.hid (fun (W : World) (hf : fewB U = true) (hb : Below w.heap.size w W) => Build_yes _ u U W (hu.old.below hb) (hT.below hb) hB hf)
  have HUN := Lib.hid (fun (W : World) (hf : fewB U = false) (hb : Below w.heap.size w W) => Build_no _ u U W (hu.old.below hb) hf)
  have HW0 := Lib.hid (Below.refl w.heap.size w)
  clear h hu hT hA hB
  generalize hS : putF R = S at *
  generalize hV : putF U = V at *
  clear hS hV
  generalize hf1 : fewB R = f1 at *
  generalize hf2 : fewB U = f2 at *
  clear hf1 hf2
  cases f1 with
  | false =>
    cases f2 with
    | false =>
      have GBN := Lib.hid (fun W => HBN.out W rfl)
      have GUN := Lib.hid (fun W => HUN.out W rfl)
      clear HBN HUN HBY HUY
      go_enter Tryd.func4, Tryd.ntmps4
      go_wp2_with (first
        | (go_at_call 12; with_reducible refine (GBN.out _ HW0.out).mono ?_; rintro e w1 ⟨rfl, rfl⟩)
        | (go_at_call 12; with_reducible refine (GUN.out _ HW0.out).mono ?_; rintro e w1 ⟨rfl, rfl⟩)
        | (go_at_call 13; with_reducible refine (alive4_any _ HT.out).mono ?_; rintro e w2 ⟨rfl, hb⟩; have HB2 := Lib.hid hb; clear hb)
        | (go_at_call 14; with_reducible refine (HF1.out _ HB2.out).mono ?_; rintro e w3 ⟨rfl, rfl⟩))
      go_ret
      exact ⟨rfl, HB2.out⟩
    | true =>
      have GBN := Lib.hid (fun W => HBN.out W rfl)
      have GUY := Lib.hid (fun W => HUY.out W rfl)
      clear HBN HUN HBY HUY
      go_enter Tryd.func4, Tryd.ntmps4
      go_wp2_with (first
        | (go_at_call 12; with_reducible refine (GBN.out _ HW0.out).mono ?_; rintro e w1 ⟨rfl, rfl⟩)
        | (go_at_call 12; with_reducible refine (GUY.out _ HW0.out).mono ?_; rintro e w1 ⟨b, n, cv, rfl, hbo⟩; have HB1 := Lib.hid hbo.below; clear hbo)
        | (go_at_call 13; with_reducible refine (alive4_any _ (HT.out.below HB1.out)).mono ?_; rintro e w2 ⟨rfl, hb⟩; have HB2 := Lib.hid (HB1.out.trans (hb.mono HB1.out.size)); clear hb)
        | (go_at_call 14; with_reducible refine (HF1.out _ HB2.out).mono ?_; rintro e w3 ⟨rfl, rfl⟩))
      go_ret
      exact ⟨rfl, HB2.out⟩
  | true =>
    cases f2 with
    | false =>
      have GBY := Lib.hid (fun W => HBY.out W rfl)
      have GUN := Lib.hid (fun W => HUN.out W rfl)
      clear HBN HUN HBY HUY
      go_enter Tryd.func4, Tryd.ntmps4
      go_wp2_with (first
        | (go_at_call 12; with_reducible refine (GBY.out _ HW0.out).mono ?_; rintro e w1 ⟨b, n, cv, rfl, hbo⟩; have HB1 := Lib.hid hbo.below; clear hbo)
        | (go_at_call 12; with_reducible refine (GUN.out _ HB1.out).mono ?_; rintro e w1' ⟨rfl, rfl⟩)
        | (go_at_call 13; with_reducible refine (alive4_any _ (HT.out.below HB1.out)).mono ?_; rintro e w2 ⟨rfl, hb⟩; have HB2 := Lib.hid (HB1.out.trans (hb.mono HB1.out.size)); clear hb)
        | (go_at_call 14; with_reducible refine (HF1.out _ HB2.out).mono ?_; rintro e w3 ⟨rfl, rfl⟩)
        | (go_at_call 14; with_reducible refine (HF2.out _ HB2.out).mono ?_; rintro e w4 ⟨rfl, rfl⟩))
      go_ret
      exact ⟨rfl, HB2.out⟩
    | true =>
      have HTX := bytes_eq (textOf 16 (runsOf S.1 S.2)) (textOf 16 (runsOf V.1 V.2))
      have HDX := bytes_eq (dumpOf (runsOf S.1 S.2)) (dumpOf (runsOf V.1 V.2))
      rw [text_same] at HTX
      rw [dump_same] at HDX
      have HWS := Lib.hid (fun (b n : Nat) (cv : Value) (w0 W : World) (h : Both w0 W b cv S n) (hT : Deb W) => h.writes hT)
      have HWV := Lib.hid (fun (b n : Nat) (cv : Value) (w0 W : World) (h : Both w0 W b cv V n) (hT : Deb W) => h.writes hT)
      have HDS := Lib.hid (fun (b n : Nat) (cv : Value) (w0 W : World) (h : Both w0 W b cv S n) (hT : Deb W) => h.dumps hT)
      have HDV := Lib.hid (fun (b n : Nat) (cv : Value) (w0 W : World) (h : Both w0 W b cv V n) (hT : Deb W) => h.dumps hT)
      have HSM := Lib.hid (fun (b n b2 n2 : Nat) (cv cv2 : Value) (w0 w02 W : World) (h : Both w0 W b cv S n) (h2 : Both w02 W b2 cv2 V n2) => Same02_any _ _ cv cv2 _ _ W h.cells.sl h2.cells.sl)
      generalize (⟨(textOf 16 (runsOf S.1 S.2)).toArray⟩ : ByteArray) = tS at *
      generalize (⟨(textOf 16 (runsOf V.1 V.2)).toArray⟩ : ByteArray) = tV at *
      generalize (⟨(dumpOf (runsOf S.1 S.2)).toArray⟩ : ByteArray) = xS at *
      generalize (⟨(dumpOf (runsOf V.1 V.2)).toArray⟩ : ByteArray) = xV at *
      generalize decide (cellsOf S.1 S.2 = cellsOf V.1 V.2) = sm at *
      have GBY := Lib.hid (fun W => HBY.out W rfl)
      have GUY := Lib.hid (fun W => HUY.out W rfl)
      clear HBN HUN HBY HUY
      go_enter Tryd.func4, Tryd.ntmps4
      go_wp2_with (first
        | (go_at_call 12; with_reducible refine (GBY.out _ HW0.out).mono ?_; rintro e w1 ⟨b, n, cv, rfl, hbo⟩; have HB1 := Lib.hid hbo; clear hbo)
        | (go_at_call 12; with_reducible refine (GUY.out _ HB1.out.below).mono ?_; rintro e w2 ⟨b2, n2, cv2, rfl, hbo⟩; have HV1 := Lib.hid hbo; have HS1 := Lib.hid (HB1.out.later hbo.below); clear hbo)
        | (go_at_call 17; with_reducible refine (HSM.out b n b2 n2 cv cv2 _ _ _ HS1.out HV1.out).mono ?_; rintro e w3 ⟨rfl, hb⟩; have HV2 := Lib.hid (HV1.out.later hb); have HS2 := Lib.hid (HS1.out.later hb); clear hb)
        | (go_at_call 13; with_reducible refine (alive4_any _ (HT.out.below HS2.out.below)).mono ?_; rintro e w4 ⟨rfl, hb⟩; have HV3 := Lib.hid (HV2.out.later hb); have HS3 := Lib.hid (HS2.out.later hb); clear hb)
        | (go_at_call 18; with_reducible refine (HWS.out b n cv _ _ HS3.out (HT.out.below HS3.out.below)).mono ?_; rintro e w5 ⟨rfl, hb⟩; have HV4 := Lib.hid (HV3.out.later hb); have HS4 := Lib.hid (HS3.out.later hb); clear hb)
        | (go_at_call 18; with_reducible refine (HWV.out b2 n2 cv2 _ _ HV4.out (HT.out.below HS4.out.below)).mono ?_; rintro e w6 ⟨rfl, hb⟩; have HV5 := Lib.hid (HV4.out.later hb); have HS5 := Lib.hid (HS4.out.later hb); clear hb)
        | (go_at_call 15; with_reducible refine (HDS.out b n cv _ _ HS5.out (HT.out.below HS5.out.below)).mono ?_; rintro e w7 ⟨rfl, hb⟩; have HV6 := Lib.hid (HV5.out.later hb); have HS6 := Lib.hid (HS5.out.later hb); clear hb)
        | (go_at_call 15; with_reducible refine (HDV.out b2 n2 cv2 _ _ HV6.out (HT.out.below HS6.out.below)).mono ?_; rintro e w8 ⟨rfl, hb⟩; have HS7 := Lib.hid (HS6.out.later hb); clear hb))
      go_ret
      exact ⟨rfl, HS7.out.below⟩
end Go.Proofs.YtcfjcoockklkeaaDoor
