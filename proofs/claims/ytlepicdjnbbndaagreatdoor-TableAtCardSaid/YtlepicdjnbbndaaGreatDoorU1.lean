/-
  Documented, the reference's and the program's. Conditions: none.
-/
import Derived.Test.YtlepicdjnbbndaaGreatDoorSA
import Derived.Test.YtlepicdjnbbndaaGreatDoorK5
namespace Go.Proofs.YtlepicdjnbbndaaGreatDoor
open Go.RowKit Go.Shelf Go.Sort

/-- a further register at the end, on the last two pages -/
def furB (pg : Int) (l : List Opd) : Bool := decide (5 ≤ pg) && (match l.getLast? with | some o => o.kind == 1 | none => false)
/-- documented, the reference's way -/
def doc9 (pg : Int) (s : ByteArray) (l : List Opd) (al : Bool) : Bool :=
  !(l.any fun o => o.kind == 2) && (!furB pg l &&
    (!al && ((s.toList != [83, 76, 76]) && (((shape07 ⟨s, l⟩).toList != [73, 78, 32, 40, 67, 41]) && ((shape07 ⟨s, l⟩).toList != [79, 85, 84, 32, 40, 67, 41, 44, 110])))))
theorem furB_low {pg : Int} {l : List Opd} (h : ¬ 5 ≤ pg) : furB pg l = false := by unfold furB; rw [decide_eq_false h]; rfl
theorem furB_nil (pg : Int) : furB pg [] = false := by unfold furB; simp
theorem furB_at {pg : Int} {l : List Opd} (h : 5 ≤ pg) (hl : 0 < l.length) : furB pg l = (l[l.length - 1].kind == 1) := by
  unfold furB
  rw [decide_eq_true h, List.getLast?_eq_getElem?, List.getElem?_eq_getElem (by omega)]
  rfl
set_option maxHeartbeats 4000000 in
set_option maxRecDepth 100000 in
theorem Doc9_any (pg op : Int) (s ex : ByteArray) (al : Bool) (l : List Opd) (p : Blocks) (v : Value) (w : World) (h : SlR opdR w p v l) :
    Calls Tryz.prog 22 #[.agg #[.int .i64 pg, .int .u8 op, .string s, v, .string ex, .bool al]] w fun e w' => e = .returned (.bool (doc9 pg s l al)) ∧ Below w.heap.size w w' := by
  obtain ⟨va, vc, rfl⟩ : ∃ a c, v = .slice a l.length c := by obtain ⟨a, c, e, _⟩ := h; exact ⟨a, c, e⟩
  have H := Lib.hid ((Fr.start w).new 36 #[.int .i64 pg, .int .u8 op, .string s, .slice va l.length vc, .string ex, .bool al])
  have HS := Lib.hid (h.alloc (.cells #[.int .i64 pg, .int .u8 op, .string s, .slice va l.length vc, .string ex, .bool al] 36))
  have hll := h.len_le
  have HD : Hid (doc9 pg s l al = (!(l.any fun o => o.kind == 2) && (!furB pg l && (!al && ((s.toList != [83, 76, 76]) && (((shape07 ⟨s, l⟩).toList != [73, 78, 32, 40, 67, 41]) && ((shape07 ⟨s, l⟩).toList != [79, 85, 84, 32, 40, 67, 41, 44, 110]))))))) := rfl
  generalize doc9 pg s l al = D at *
  clear h
  go_enter Tryz.func22, Tryz.ntmps22
  go_wp2
  generalize w.alloc (.cells #[.int .i64 pg, .int .u8 op, .string s, .slice va l.length vc, .string ex, .bool al] 36) = W at *
  go_loop [4] (fun i => ∃ k : Nat, k ≤ l.length ∧ i = .int .i64 k ∧ (l.take k).any (fun o => o.kind == 2) = false) (fun i => l.length - (intOf i).toNat)
  case atStart => exact ⟨0, Nat.zero_le _, rfl, by simp⟩
  case round =>
    obtain ⟨k, hk, rfl, ht⟩ := hrel
    have HT := Lib.hid ht
    clear ht
    by_cases hlt : k < l.length
    · obtain ⟨a1, c1, e1, _, _, g1⟩ := HS.out.opd
      injection e1 with e1
      subst e1
      obtain ⟨b, o, rfl, _, c0, _, _⟩ := g1 k l[k] (List.getElem?_eq_getElem hlt)
      have hst : (l.take (k + 1)).any (fun o => o.kind == 2) = ((l.take k).any (fun o => o.kind == 2) || (l[k].kind == 2)) := by
        rw [List.take_succ_eq_append_getElem hlt, List.any_append]; simp
      have HST := Lib.hid hst
      have hin : (l[k].kind == 2) = true → l.any (fun o => o.kind == 2) = true := fun h => List.any_eq_true.2 ⟨l[k], List.getElem_mem _, h⟩
      have HIN := Lib.hid hin
      clear hst hin g1
      generalize l[k].kind = yk at *
      cases hy : (yk == 2)
      · go_wp2
        go_round
        case rel => exact ⟨k + 1, by omega, by go_num, by rw [HST.out, HT.out, hy]; rfl⟩
        case measure => simp [intOf]; omega
      · go_wp2
        go_ret
        exact ⟨ret_bool (by rw [HD.out, HIN.out hy]; rfl), H.out.below⟩
    · have hk2 : k = l.length := by omega
      have hno : l.any (fun o => o.kind == 2) = false := by have := HT.out; rwa [hk2, List.take_length] at this
      have HNO := Lib.hid hno
      have q0 := (H.out.blk 0 rfl).cell 0
      have q2 := (H.out.blk 0 rfl).cell 2
      have q3 := (H.out.blk 0 rfl).cell 3
      have q5 := (H.out.blk 0 rfl).cell 5
      clear hk2 hno
      have HSH := Lib.hid (fun W h => shape07_any p ⟨s, l⟩ (.slice va l.length vc) W h)
      have HDn : Hid (D = (!furB pg l && (!al && ((s.toList != [83, 76, 76]) && (((shape07 ⟨s, l⟩).toList != [73, 78, 32, 40, 67, 41]) && ((shape07 ⟨s, l⟩).toList != [79, 85, 84, 32, 40, 67, 41, 44, 110])))))) := by
        rw [HD.out, HNO.out]; rfl
      clear HNO HD
      have HD := HDn
      clear HDn
      go_upto_region 7 with fail
      go_cut [38] (fun s38 wx => s38 = .bool (furB pg l) ∧ wx = W)
      case first =>
        by_cases h5 : 5 ≤ pg
        · by_cases hl0 : 0 < l.length
          · obtain ⟨a1, c1, e1, _, _, g1⟩ := HS.out.opd
            injection e1 with e1 e2 e3
            clear e2
            subst e1 e3
            obtain ⟨b, o, rfl, _, c0, _, _⟩ := g1 (l.length - 1) l[l.length - 1] (List.getElem?_eq_getElem (by omega))
            have HFU := Lib.hid (furB_at h5 hl0)
            clear g1
            generalize l[l.length - 1] = y at *
            obtain ⟨yk, yr, yn⟩ := y
            dsimp only at c0
            have hl1 : 1 ≤ l.length := hl0
            go_wp2
            go_meet
            case rel => exact ⟨by rw [HFU.out], rfl⟩
          · obtain rfl : l = [] := List.eq_nil_of_length_eq_zero (by omega)
            have HFU := Lib.hid (furB_nil pg)
            go_wp2
            go_meet
            case rel => exact ⟨by rw [HFU.out], rfl⟩
        · have HFU := Lib.hid (furB_low (l := l) h5)
          have hpg : pg < 5 := by omega
          go_wp2
          go_meet
          case rel => exact ⟨by rw [HFU.out], rfl⟩
      case rest =>
        obtain ⟨rfl, rfl⟩ := hcut
        generalize furB pg l = fb at *
        cases fb
        rotate_left
        · go_wp2
          go_ret
          exact ⟨ret_bool (by rw [HD.out]; rfl), H.out.below⟩
        generalize hsh : shape07 ⟨s, l⟩ = sh at *
        cases al
        rotate_left
        · go_wp2_with (go_at_call 58; refine (HSH.out _ HS.out).mono ?_; rintro e w2 ⟨rfl, hb⟩; have H2 := Lib.hid (H.out.next hb); have q2 := (H2.out.blk 0 rfl).cell 2; have q5 := (H2.out.blk 0 rfl).cell 5; clear hb)
          go_ret
          exact ⟨ret_bool (by rw [HD.out]; rfl), H2.out.below⟩
        cases hs1 : (s.toList == [83, 76, 76])
        rotate_left
        · go_wp2_with (go_at_call 58; refine (HSH.out _ HS.out).mono ?_; rintro e w2 ⟨rfl, hb⟩; have H2 := Lib.hid (H.out.next hb); have q2 := (H2.out.blk 0 rfl).cell 2; have q5 := (H2.out.blk 0 rfl).cell 5; clear hb)
          go_ret
          exact ⟨ret_bool (by rw [HD.out]; simp [bne, hs1]), H2.out.below⟩
        cases ht1 : (sh.toList == [73, 78, 32, 40, 67, 41])
        rotate_left
        · go_wp2_with (go_at_call 58; refine (HSH.out _ HS.out).mono ?_; rintro e w2 ⟨rfl, hb⟩; have H2 := Lib.hid (H.out.next hb); have q2 := (H2.out.blk 0 rfl).cell 2; have q5 := (H2.out.blk 0 rfl).cell 5; clear hb)
          go_ret
          exact ⟨ret_bool (by rw [HD.out]; simp [bne, hs1, ht1]), H2.out.below⟩
        go_wp2_with (go_at_call 58; refine (HSH.out _ HS.out).mono ?_; rintro e w2 ⟨rfl, hb⟩; have H2 := Lib.hid (H.out.next hb); have q2 := (H2.out.blk 0 rfl).cell 2; have q5 := (H2.out.blk 0 rfl).cell 5; clear hb)
        go_ret
        exact ⟨ret_bool (by rw [HD.out]; simp [bne, hs1, ht1]), H2.out.below⟩
end Go.Proofs.YtlepicdjnbbndaaGreatDoor
