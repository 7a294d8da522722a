/-
  breadboardref13.Split. Conditions: sizes.
-/
import Derived.Test.YtnbmbcjnncbaiaaGreatDoorJ15
namespace Go.Proofs.YtnbmbcjnncbaiaaGreatDoor
open Go.RowKit Go.Shelf Go.Sort

set_option maxHeartbeats 8000000 in
set_option maxRecDepth 100000 in
theorem Split13_any (p : Blocks) (a : Option Addr) (c : Nat) (l : List UInt8) (w : World) (hs : SlR byteR w p (.slice a l.length c) l) (hl : l.length ≤ 300) :
    Calls Tryz.prog 26 #[.slice a l.length c] w fun e w' => e = .returned (.int .i64 (waysF l)) ∧ RowKit.Below w.heap.size w w' := by
  obtain ⟨w0, hmk, hb0, hI0⟩ := run_make_ints w (l.length + 1) (by omega)
  have HS := Lib.hid hs
  have HL := Lib.hid hl
  have HB0 := Lib.hid hb0
  have HI0 := Lib.hid hI0
  obtain ⟨x0, z0⟩ := hI0.cell (i := l.length) (by omega)
  have hw1 : IntKind.i64.wrap ((l.length : Int) + 1) = (l.length : Int) + 1 := by rw [IntKind.wrap_i64]; omega
  rw [show (((l.length + 1 : Nat)) : Int) = (l.length : Int) + 1 by push_cast; rfl] at hmk
  have hw2 : IntKind.i64.wrap ((l.length : Int) - 1) = (l.length : Int) - 1 := by rw [IntKind.wrap_i64]; omega
  have hlt1 : (l.length : Int) < (l.length : Int) + 1 := by omega
  clear hs hl hb0 hI0
  go_enter Tryz.func26, Tryz.ntmps26
  go_upto_region 3 with fail
  have HI1 : Hid (IntsB (w0.setCell ⟨w.heap.size, l.length, none⟩ (.int .i64 1)) w.heap.size (l.length + 1) (fun j => if l.length ≤ j then (waysF (l.drop j) : Int) else 0)) := Lib.hid (HI0.out.set (by omega) (by rw [if_pos (Nat.le_refl _), List.drop_length]; rfl) (fun j hj hne => by rw [if_neg (by omega)]))
  have HB1 := Lib.hid (HB0.out.setCell (p := ⟨w.heap.size, l.length, none⟩) (Nat.le_refl _) (.int .i64 1))
  generalize w0.setCell ⟨w.heap.size, l.length, none⟩ (.int .i64 1) = W1 at *
  obtain ⟨g, hg⟩ : ∃ g, w.heap.size = g := ⟨_, rfl⟩
  have HG := Lib.hid hg
  rw [hg] at HI1 ⊢
  clear HI0 HB0 x0 z0 hmk
  go_wp2
  go_loopw [4, 5, 6] (fun i _ _ wr => ∃ (k : Nat) (v : Int), k ≤ l.length ∧ v = (k : Int) - 1 ∧ i = .int .i64 v ∧ IntsB wr g (l.length + 1) (fun j => if k ≤ j then (waysF (l.drop j) : Int) else 0) ∧ RowKit.Below w.heap.size w wr) (fun i _ _ _ => (intOf i + 1).toNat)
  case atStart => exact ⟨l.length, _, Nat.le_refl _, rfl, rfl, HI1.out, HB1.out⟩
  case round =>
    obtain ⟨k, v, hk, hv, rfl, hI, hb⟩ := hrel
    have HB := Lib.hid hb
    clear HI1 HB1
    cases k with
    | zero =>
      have hv' : v = -1 := by omega
      subst hv'
      obtain ⟨x0, _⟩ := hI.cell (i := 0) (by omega)
      rw [if_pos (Nat.le_refl 0), List.drop_zero] at x0
      have hg0 : (0 : Int) < (l.length : Int) + 1 := by omega
      clear hI hb hv
      obtain ⟨y, hy⟩ : ∃ y, waysF l = y := ⟨_, rfl⟩
      rw [hy] at x0
      have HYY := Lib.hid hy
      clear hy
      go_wp2
      go_ret
      exact ⟨by rw [HYY.out]; rfl, HB.out⟩
    | succ i =>
      have hv' : v = (i : Int) := by omega
      subst hv'
      have hil : i < l.length := by omega
      have hi0 : (0 : Int) ≤ (i : Int) := by omega
      have hw3 : IntKind.i64.wrap ((i : Int) - 1) = (i : Int) - 1 := by have := HL.out; rw [IntKind.wrap_i64]; omega
      have HIL := Lib.hid hil
      have hL0 : 0 < (l.drop i).length := by rw [List.length_drop]; omega
      have HL0 := Lib.hid hL0
      have HI := Lib.hid (show IntsB wr g (l.length + 1) (fun j => if j = i then partF (l.drop i) 1 else if i + 1 ≤ j then (waysF (l.drop j) : Int) else 0) from hI.eqv (fun j hj => by
        by_cases e : j = i
        · rw [if_pos e, partF_one hL0, if_neg (by omega)]
        · rw [if_neg e]))
      clear hI hb hv hL0 hk
      go_wp2
      go_loopw [5, 6] (fun n _ wr2 => ∃ m : Nat, 1 ≤ m ∧ m ≤ 5 ∧ i + m ≤ l.length + 1 ∧ n = .int .i64 m ∧ IntsB wr2 g (l.length + 1) (fun j => if j = i then partF (l.drop i) m else if i + 1 ≤ j then (waysF (l.drop j) : Int) else 0) ∧ RowKit.Below w.heap.size w wr2) (fun n _ _ => 5 - (intOf n).toNat)
      case atStart => exact ⟨1, Nat.le_refl _, by omega, by have := HIL.out; omega, rfl, HI.out, HB.out⟩
      case round =>
        obtain ⟨m, hm1, hm5, hmn, rfl, hI2, hb2⟩ := hrel
        clear HI HB
        have HB := Lib.hid hb2
        have HI := Lib.hid hI2
        have hw4 : IntKind.i64.wrap ((i : Int) + (m : Int)) = (i : Int) + (m : Int) := by have := HL.out; rw [IntKind.wrap_i64]; omega
        have hw5 : IntKind.i64.wrap ((m : Int) + 1) = (m : Int) + 1 := by rw [IntKind.wrap_i64]; omega
        clear hI2 hb2
        by_cases hm4 : m ≤ 4
        · have hm4' : (m : Int) ≤ 4 := by omega
          by_cases him : i + m ≤ l.length
          · have him' : (i : Int) + (m : Int) ≤ (l.length : Int) := by omega
            obtain ⟨a9, c9, hcut, hs9, hlen9⟩ := cut_mid HS.out i m hil him
            have HFI := Lib.hid (First12_any p a9 c9 ((l.drop i).take m) wr (hs9.below HB.out) (by omega) (by have := HL.out; omega))
            have hrl := itF_raw ((l.drop i).take m) (by omega)
            have HWB : Hid (wayB (l.drop i) m = (decide ((itF ((l.drop i).take m)).k = 1) && (!(itF ((l.drop i).take m)).al && decide ((itF ((l.drop i).take m)).n = m)))) := Lib.hid rfl
            have HNO := Lib.hid (fun h => partF_no (L := l.drop i) hm1 (by rw [List.length_drop]; omega) h)
            have HYS := Lib.hid (fun h => partF_yes (L := l.drop i) hm1 (by rw [List.length_drop]; omega) h)
            rw [hlen9] at HFI
            clear hs9 hlen9
            generalize (l.drop i).take m = P at *
            obtain ⟨R1, hR1⟩ : ∃ R, R = P.take (itF P).n := ⟨_, rfl⟩
            rw [← hR1] at hrl
            have HR1 := Lib.hid hR1
            clear hR1
            obtain ⟨IT, hIT⟩ : ∃ IT, itF P = IT := ⟨_, rfl⟩
            rw [hIT] at HFI HWB HR1 hrl
            have HRL := Lib.hid hrl
            clear hIT hrl
            have HM := Lib.hid (show 1 ≤ m ∧ m ≤ 4 ∧ i + m ≤ l.length from ⟨hm1, hm4, him⟩)
            have hmk1 : ¬ (m : Int) < 0 := by omega
            have hik : (i : Int) ≤ (i : Int) + (m : Int) := by omega
            go_upto_region 10 with (go_at_call 21; refine (HFI.out).mono ?_; rintro e w3 ⟨⟨v3, rfl, hi⟩, hb3⟩; obtain ⟨ra, rc, va, vc, hv, _, _⟩ := hi; unfold itmV at hv; rw [← HR1.out] at hv; subst hv; have hba := hb3.alloc hb3.size (.cells #[.int .i64 IT.k, .slice ra R1.length rc, .string ⟨IT.op.toArray⟩, .slice va IT.args.length vc, .bool IT.al] 29); have HI3 := Lib.hid (HI.out.below hba); have HB3 := Lib.hid (HB.out.trans (hba.mono HB.out.size)); have HK3 := Lib.hid (Blk.new w3 29 #[.int .i64 IT.k, .slice ra R1.length rc, .string ⟨IT.op.toArray⟩, .slice va IT.args.length vc, .bool IT.al]); clear hb3 hba)
            generalize w3.alloc (.cells #[.int .i64 IT.k, .slice ra R1.length rc, .string ⟨IT.op.toArray⟩, .slice va IT.args.length vc, .bool IT.al] 29) = W3 at *
            generalize w3.heap.size = tb at *
            obtain ⟨⟨c0, c1, c2, c3, c4⟩, _⟩ := HK3.out.five
            clear HFI HR1 HK3
            obtain ⟨kk, kn, kop, kar, kal⟩ := IT
            dsimp only at c0 c1 c2 c3 c4 HWB HRL
            by_cases hk9 : kk = 1
            · subst hk9
              cases kal
              · by_cases hn9 : kn = m
                · have hne9 : ((R1.length : Int) == (m : Int)) = true := by rw [HRL.out, hn9, beq_self_eq_true]
                  obtain ⟨hp0, hp1⟩ := HYS.out (by rw [HWB.out, hn9]; simp)
                  have HP1 := Lib.hid hp1
                  have y0 := (HI3.out.cell (i := i) (by have := HIL.out; omega)).1
                  have yz := (HI3.out.cell (i := i) (by have := HIL.out; omega)).2
                  have y1 := (HI3.out.cell (i := i + m) (by have := HM.out; omega)).1
                  rw [if_pos rfl, hp0] at y0
                  rw [if_neg (by have := HM.out; omega), if_pos (by have := HM.out; omega)] at y1
                  have hyle := waysF_le (l.drop (i + m))
                  have HDD : Hid ((l.drop i).drop m = l.drop (i + m)) := Lib.hid (by rw [List.drop_drop])
                  rw [HDD.out] at HP1
                  generalize waysF (l.drop (i + m)) = y at *
                  have hw6 : IntKind.i64.wrap (y : Int) = (y : Int) := by rw [IntKind.wrap_i64]; omega
                  have hmn6 : min (y : Int) 1000 = (y : Int) := by omega
                  have hig : (i : Int) < (l.length : Int) + 1 := by have := HIL.out; omega
                  have himg : (i : Int) + (m : Int) < (l.length : Int) + 1 := by omega
                  have him0 : (0 : Int) ≤ (i : Int) + (m : Int) := by omega
                  clear hp0 hp1 hyle hn9
                  go_upto_region 11 with fail
                  have htn : ((i : Int) + (m : Int)).toNat = i + m := by omega
                  go_region
                  all_goals go_wp2
                  all_goals go_roundw
                  case rel => exact ⟨m + 1, by omega, by have := HM.out; omega, by have := HM.out; omega, by go_num, (HI3.out.set (f' := fun j => if j = i then partF (l.drop i) (m + 1) else if i + 1 ≤ j then (waysF (l.drop j) : Int) else 0) (by have := HIL.out; omega) (by rw [if_pos rfl, HP1.out]) (fun j _ hj => by rw [if_neg hj, if_neg hj])).drew, (HB3.out.setCell (p := ⟨g, i, none⟩) (Nat.le_of_eq HG.out) _).drew⟩
                  case measure => have := HM.out; simp [intOf] <;> omega
                · have hne9 : ((R1.length : Int) == (m : Int)) = false := by rw [beq_eq_false_iff_ne, HRL.out]; omega
                  have HE := Lib.hid (HNO.out (by rw [HWB.out]; simp [hn9]))
                  go_wp2
                  go_roundw
                  case rel => exact ⟨m + 1, by omega, by have := HM.out; omega, by have := HM.out; omega, by go_num, HI3.out.eqv (fun j hj => by
                    by_cases e : j = i
                    · rw [if_pos e, if_pos e, HE.out]
                    · rw [if_neg e, if_neg e]), HB3.out⟩
                  case measure => have := HM.out; simp [intOf] <;> omega
              · have HE := Lib.hid (HNO.out (by rw [HWB.out]; simp))
                go_wp2
                go_roundw
                case rel => exact ⟨m + 1, by omega, by have := HM.out; omega, by have := HM.out; omega, by go_num, HI3.out.eqv (fun j hj => by
                  by_cases e : j = i
                  · rw [if_pos e, if_pos e, HE.out]
                  · rw [if_neg e, if_neg e]), HB3.out⟩
                case measure => have := HM.out; simp [intOf] <;> omega
            · have HE := Lib.hid (HNO.out (by rw [HWB.out]; simp [hk9]))
              go_wp2
              go_roundw
              case rel => exact ⟨m + 1, by omega, by have := HM.out; omega, by have := HM.out; omega, by go_num, HI3.out.eqv (fun j hj => by
                by_cases e : j = i
                · rw [if_pos e, if_pos e, HE.out]
                · rw [if_neg e, if_neg e]), HB3.out⟩
              case measure => have := HM.out; simp [intOf] <;> omega
          · have him' : ¬ (i : Int) + (m : Int) ≤ (l.length : Int) := by omega
            have HE : Hid (partF (l.drop i) m = waysF (l.drop i)) := Lib.hid (partF_end HL0.out (.inr (by rw [List.length_drop]; omega)))
            go_wp2
            go_roundw
            case rel => exact ⟨i, (i : Int) - 1, by have := HIL.out; omega, rfl, rfl, HI.out.eqv (fun j hj => by
              by_cases e : j = i
              · subst e; rw [if_pos (Nat.le_refl _), if_pos rfl, HE.out]
              · rw [if_neg e]
                by_cases e2 : i ≤ j
                · rw [if_pos e2, if_pos (by omega)]
                · rw [if_neg e2, if_neg (by omega)]), HB.out⟩
            case measure => simp [intOf] <;> omega
        · have hm4' : ¬ (m : Int) ≤ 4 := by omega
          have HE : Hid (partF (l.drop i) m = waysF (l.drop i)) := Lib.hid (partF_end HL0.out (.inl (by omega)))
          go_wp2
          go_roundw
          case rel => exact ⟨i, (i : Int) - 1, by have := HIL.out; omega, rfl, rfl, HI.out.eqv (fun j hj => by
            by_cases e : j = i
            · subst e; rw [if_pos (Nat.le_refl _), if_pos rfl, HE.out]
            · rw [if_neg e]
              by_cases e2 : i ≤ j
              · rw [if_pos e2, if_pos (by omega)]
              · rw [if_neg e2, if_neg (by omega)]), HB.out⟩
          case measure => simp [intOf] <;> omega
end Go.Proofs.YtnbmbcjnncbaiaaGreatDoor
