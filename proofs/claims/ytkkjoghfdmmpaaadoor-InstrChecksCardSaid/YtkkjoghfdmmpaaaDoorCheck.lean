/-
  instr.Check: what it answers is what the reference's Check answers.
-/
import Derived.Test.YtkkjoghfdmmpaaaDoorSet
import Derived.Lib.QuietBelow
import Derived.Deep.RegionHeld3
import Derived.Deep.DeepCutAuto
namespace Go.Proofs.YtkkjoghfdmmpaaaDoor
open Go.RowKit

theorem check1_any (o : Opd) (w : World) : Calls Tryd.prog 87 #[.agg #[.int .i64 o.kind, .int .i64 o.reg, .int .i64 o.n]] w fun e w' => e = .returned (.bool (!validOpd o)) ∧ Below w.heap.size w w' := by
  have HB0 : Hid (Below w.heap.size w (w.alloc (.cells #[.int .i64 o.kind, .int .i64 o.reg, .int .i64 o.n] 47))) := (Below.refl _ _).alloc (Nat.le_refl _) _
  have HV := Lib.hid (valid_any o (w.alloc (.cells #[.int .i64 o.kind, .int .i64 o.reg, .int .i64 o.n] 47)))
  rw [← ok_valid]
  go_enter Tryd.func87, Tryd.ntmps87
  go_wp2_with (go_at_call 88; refine HV.out.mono ?_; rintro e w1 ⟨rfl, hb⟩; have HB := Lib.hid (HB0.out.trans (hb.mono HB0.out.size)); clear hb)
  go_ret
  exact ⟨rfl, HB.out⟩

set_option maxHeartbeats 1000000 in
theorem index_any (p : Blocks) (v : Value) (l : List Opd) (w : World) (h : SlR opdR w p v l) :
    Calls Tryd.prog 121 #[v, .func (.func 87) #[] #[]] w fun e w' => (∃ r : Int, e = .returned (.int .i64 r) ∧ decide (0 ≤ r) = !l.all validOpd) ∧ Below w.heap.size w w' := by
  obtain ⟨a, c, rfl, _⟩ := h.opd
  have H := Lib.hid h
  clear h
  go_enter Tryd.func121, Tryd.ntmps121
  go_wp2
  go_loopw [8] (fun i wx => ∃ k : Nat, k ≤ l.length ∧ i = .int .i64 k ∧ l.all validOpd = (l.drop k).all validOpd ∧ Below w.heap.size w wx) (fun i _ => l.length - (intOf i).toNat)
  case atStart => exact ⟨0, Nat.zero_le _, rfl, rfl, Below.refl _ _⟩
  case round =>
    obtain ⟨k, hk, rfl, ht, hb⟩ := hrel
    have HT := Lib.hid ht
    have HBX := Lib.hid hb
    obtain ⟨ad, cd, hv, _, _, g1⟩ := (H.out.below hb).opd
    obtain ⟨rfl, _, rfl⟩ : a = ad ∧ l.length = l.length ∧ c = cd := by injection hv with h1 h2 h3; exact ⟨h1, h2, h3⟩
    clear ht hb hv
    by_cases hlt : k < l.length
    · obtain ⟨b1, o1, rfl, _, d1, d2, d3⟩ := g1 k l[k] (List.getElem?_eq_getElem hlt)
      clear g1
      have HD := Lib.hid (List.drop_eq_getElem_cons hlt)
      have hva := fun wz => check1_any l[k] wz
      generalize l[k] = x at *
      cases hvx : validOpd x
      all_goals
        rw [hvx] at hva
        have HVA := Lib.hid hva
        have HVX := Lib.hid hvx
        clear hva hvx
      · go_wp2_with (go_at_call 87; refine (HVA.out _).mono ?_; rintro e w2 ⟨rfl, hb⟩; have HB2 := Lib.hid (HBX.out.trans (hb.mono HBX.out.size)); clear hb)
        go_ret
        exact ⟨⟨k, rfl, by rw [HT.out, HD.out, List.all_cons, HVX.out]; simp⟩, HB2.out⟩
      · go_wp2_with (go_at_call 87; refine (HVA.out _).mono ?_; rintro e w2 ⟨rfl, hb⟩; have HB2 := Lib.hid (HBX.out.trans (hb.mono HBX.out.size)); clear hb)
        go_round
        case rel => exact ⟨k + 1, by omega, by go_num, by rw [HT.out, HD.out, List.all_cons, HVX.out, Bool.true_and], HB2.out⟩
        case measure => simp [intOf]; omega
    · clear g1
      go_wp2
      go_ret
      exact ⟨⟨-1, rfl, by rw [HT.out, List.drop_of_length_le (by omega)]; simp⟩, HBX.out⟩

theorem contains_any (p : Blocks) (v : Value) (l : List Opd) (w : World) (h : SlR opdR w p v l) :
    Calls Tryd.prog 86 #[v, .func (.func 87) #[] #[]] w fun e w' => e = .returned (.bool (!l.all validOpd)) ∧ Below w.heap.size w w' := by
  have HI := Lib.hid (index_any p v l w h)
  obtain ⟨a, c, rfl, _⟩ := h.opd
  clear h
  go_enter Tryd.func86, Tryd.ntmps86
  go_wp2_with (go_at_call 121; refine HI.out.mono ?_; rintro e w1 ⟨⟨r, rfl, hr⟩, hb⟩; have HB := Lib.hid hb; have HR := Lib.hid hr; clear hb hr)
  go_ret
  exact ⟨ret_bool HR.out, HB.out⟩

theorem zeroB (w : World) : (zeroValue 4).run Tryd.prog w = .ok (.bool false) w := by kernel_rfl
theorem look_set {w : World} {b n : Nat} {D : DataW Unit} (hown : w.ownsMap Tryd.prog 9 (plainElem Tryd.prog 4) b n D) (hD : ∀ s : ByteArray, D.atKey (.string s.data.toList) (.lit (.bool false)) = .lit (.bool (inL opsL s)))
    (s : ByteArray) (hs : s.size ≤ maxLen) : (Instr.lookup 113 (.map (some b)) (.string s) false).run Tryd.prog w = .ok (.bool (inL opsL s)) w := by
  obtain ⟨v, ps, hrun, hat⟩ := hown.lookup (Maps.string_keyed Tryd.underlying9) Tryd.underlying113 (zeroB w) (plainElem_bool Tryd.underlying4 false) (WideMaps.keyOf_string_mk Tryd.underlying9 hs)
  rw [hD] at hat
  rw [hrun]
  cases v <;> simp [plainElem, Tryd.underlying4] at hat
  rw [hat.1]

set_option maxHeartbeats 2000000 in
theorem check_any (p : Blocks) (x : Ins) (v : Value) (w : World) (h : SlR opdR w p v x.args) (hT : Spc w) (hs : x.op.size ≤ maxLen) :
    Calls Tryd.prog 39 #[.agg #[.string x.op, v]] w fun e w' => e = .returned (.int .i64 (check07 x)) ∧ Below w.heap.size w w' := by
  obtain ⟨s, l⟩ := x
  dsimp only at *
  obtain ⟨a, c, rfl, _⟩ := h.opd
  obtain ⟨W, hW⟩ : ∃ W : World, W = w.alloc (.cells #[.string s, .slice a l.length c] 39) := ⟨_, rfl⟩
  have hbW : Below w.heap.size w W := hW ▸ (Below.refl _ _).alloc (Nat.le_refl _) _
  have k1 : Blk W w.heap.size 39 #[.string s, .slice a l.length c] := hW ▸ Blk.new w _ _
  have HBW : Hid (Below w.heap.size w W.drew) := ⟨hbW.os, hbW.tape, hbW.output, hbW.size, hbW.block⟩
  have HK := Lib.hid k1
  have HSL := Lib.hid (h.below hbW).drew
  have hset : Calls Tryd.prog 85 #[] W.drew fun e w' => e = .returned (.map (some W.heap.size)) ∧
    (∃ D : DataW Unit, w'.ownsMap Tryd.prog 9 (plainElem Tryd.prog 4) W.heap.size opsL.length D ∧ ∀ s : ByteArray, D.atKey (.string s.data.toList) (.lit (.bool false)) = .lit (.bool (inL opsL s))) ∧ Below W.heap.size W.drew w' :=
    set_any W.drew ((hT.below hbW).below ⟨rfl, rfl, rfl, Nat.le_refl _, fun _ _ => rfl⟩)
  have HS := Lib.hid hs
  have hs1 : w.heap.size < W.heap.size := k1.lt
  obtain ⟨a0, a1, _, _⟩ := k1.two
  have HSET := Lib.hid hset
  clear h hbW hset k1 hT hs
  cases hin : inL opsL s
  · have HV := Lib.hid (show check07 ⟨s, l⟩ = 12 by simp [check07, hin])
    have HIN := Lib.hid hin
    go_enter Tryd.func39, Tryd.ntmps39
    go_upto_region 1 with fail
    rw [← hW]
    clear hW
    go_region_held3 (fun w' => w'.cell? ⟨w.heap.size, 0, none⟩ = some (.string s) ∧ w'.cell? ⟨w.heap.size, 1, none⟩ = some (.slice a l.length c)) (go_keep)
      (first | (go_at_call 85; refine HSET.out.mono ?_; rintro e w1 ⟨rfl, ⟨D, hown, hD⟩, hb⟩; have HB := Lib.hid hb; have hlook := look_set hown hD s HS.out; rw [HIN.out] at hlook; have b0 : w1.cell? ⟨w.heap.size, 0, none⟩ = some (.string s) := (hb.cell (p := ⟨w.heap.size, 0, none⟩) hs1).trans a0; have b1 : w1.cell? ⟨w.heap.size, 1, none⟩ = some (.slice a l.length c) := (hb.cell (p := ⟨w.heap.size, 1, none⟩) hs1).trans a1; clear hb hown hD))
    go_wp2
    go_ret
    exact ⟨ret_int HV.out.symm, HBW.out.trans (HB.out.mono HBW.out.size)⟩
  · have HIN := Lib.hid hin
    cases hl : decide ((3 : Int) < l.length)
    rotate_left
    · have HV := Lib.hid (show check07 ⟨s, l⟩ = 11 by have := of_decide_eq_true hl; simp [check07, hin]; omega)
      go_enter Tryd.func39, Tryd.ntmps39
      go_upto_region 1 with fail
      rw [← hW]
      clear hW
      go_region_held3 (fun w' => w'.cell? ⟨w.heap.size, 0, none⟩ = some (.string s) ∧ w'.cell? ⟨w.heap.size, 1, none⟩ = some (.slice a l.length c)) (go_keep)
        (first | (go_at_call 85; refine HSET.out.mono ?_; rintro e w1 ⟨rfl, ⟨D, hown, hD⟩, hb⟩; have HB := Lib.hid hb; have hlook := look_set hown hD s HS.out; rw [HIN.out] at hlook; have b0 : w1.cell? ⟨w.heap.size, 0, none⟩ = some (.string s) := (hb.cell (p := ⟨w.heap.size, 0, none⟩) hs1).trans a0; have b1 : w1.cell? ⟨w.heap.size, 1, none⟩ = some (.slice a l.length c) := (hb.cell (p := ⟨w.heap.size, 1, none⟩) hs1).trans a1; clear hb hown hD))
      go_wp2
      go_ret
      exact ⟨ret_int HV.out.symm, HBW.out.trans (HB.out.mono HBW.out.size)⟩
    · have hv : check07 ⟨s, l⟩ = if l.all validOpd then 0 else 2 := by have := of_decide_eq_false hl; simp [check07, hin]; omega
      cases hall : l.all validOpd
      all_goals
        rw [hall] at hv
        have HV := Lib.hid hv
        have HALL := Lib.hid hall
        clear hv hall
        go_enter Tryd.func39, Tryd.ntmps39
        go_upto_region 1 with fail
        rw [← hW]
        clear hW
        go_region_held3 (fun w' => w'.cell? ⟨w.heap.size, 0, none⟩ = some (.string s) ∧ w'.cell? ⟨w.heap.size, 1, none⟩ = some (.slice a l.length c)) (go_keep)
          (first | (go_at_call 85; refine HSET.out.mono ?_; rintro e w1 ⟨rfl, ⟨D, hown, hD⟩, hb⟩; have HB := Lib.hid hb; have hlook := look_set hown hD s HS.out; rw [HIN.out] at hlook; have b0 : w1.cell? ⟨w.heap.size, 0, none⟩ = some (.string s) := (hb.cell (p := ⟨w.heap.size, 0, none⟩) hs1).trans a0; have b1 : w1.cell? ⟨w.heap.size, 1, none⟩ = some (.slice a l.length c) := (hb.cell (p := ⟨w.heap.size, 1, none⟩) hs1).trans a1; clear hb hown hD))
        have HSL1 := Lib.hid (HSL.out.below HB.out)
        go_wp2_with (go_at_call 86; refine (contains_any _ _ _ _ HSL1.out).mono ?_; rw [HALL.out]; rintro e w2 ⟨rfl, hb⟩; have HB2 := Lib.hid hb; clear hb)
        go_ret
        exact ⟨ret_int HV.out.symm, (HBW.out.trans (HB.out.mono HBW.out.size)).trans (HB2.out.mono (Nat.le_trans HBW.out.size HB.out.size))⟩
end Go.Proofs.YtkkjoghfdmmpaaaDoor
