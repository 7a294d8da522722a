/-
  table.Documented. Conditions: none.
-/
import Derived.Test.YtlepicdjnbbndaaGreatDoorU1
namespace Go.Proofs.YtlepicdjnbbndaaGreatDoor
open Go.RowKit Go.Shelf Go.Sort

theorem doc1_any (o : Opd) (w : World) : Calls Tryz.prog 57 #[.agg #[.int .i64 o.kind, .int .i64 o.reg, .int .i64 o.n]] w fun e w' => e = .returned (.bool (o.kind == 2)) ∧ Below w.heap.size w w' := by
  have HB0 : Hid (Below w.heap.size w (w.alloc (.cells #[.int .i64 o.kind, .int .i64 o.reg, .int .i64 o.n] 87))) := (Below.refl _ _).alloc (Nat.le_refl _) _
  go_enter Tryz.func57, Tryz.ntmps57
  go_wp2
  go_ret
  exact ⟨rfl, HB0.out⟩
set_option maxHeartbeats 2000000 in
set_option maxRecDepth 100000 in
theorem indexF_any (p : Blocks) (v : Value) (l : List Opd) (w : World) (h : SlR opdR w p v l) :
    Calls Tryz.prog 110 #[v, .func (.func 57) #[] #[]] w fun e w' => (∃ r : Int, e = .returned (.int .i64 r) ∧ decide (0 ≤ r) = (l.any fun o => o.kind == 2)) ∧ Below w.heap.size w w' := by
  obtain ⟨a, c, rfl, _⟩ := h.opd
  have H := Lib.hid h
  clear h
  go_enter Tryz.func110, Tryz.ntmps110
  go_wp2
  go_loopw [8] (fun i wx => ∃ k : Nat, k ≤ l.length ∧ i = .int .i64 k ∧ (l.any fun o => o.kind == 2) = ((l.drop k).any fun o => o.kind == 2) ∧ Below w.heap.size w wx) (fun i _ => l.length - (intOf i).toNat)
  case atStart => exact ⟨0, Nat.zero_le _, rfl, rfl, Below.refl _ _⟩
  case round =>
    obtain ⟨k, hk, rfl, ht, hb⟩ := hrel
    have HT := Lib.hid ht
    have HBX := Lib.hid hb
    obtain ⟨ad, cd, hv, _, _, g1⟩ := (H.out.below hb).opd
    obtain ⟨rfl, _, rfl⟩ : a = ad ∧ l.length = l.length ∧ c = cd := by injection hv with h1 h2 h3; exact ⟨h1, h2, h3⟩
    clear ht hb hv
    by_cases hlt : k < l.length
    · obtain ⟨b1, o1, rfl, _, d1, d2, d3⟩ := g1 k l[k] (List.getElem?_eq_getElem hlt)
      clear g1
      have HD := Lib.hid (List.drop_eq_getElem_cons hlt)
      have hva := fun wz => doc1_any l[k] wz
      generalize l[k] = x at *
      cases hvx : (x.kind == 2)
      all_goals
        rw [hvx] at hva
        have HVA := Lib.hid hva
        have HVX := Lib.hid hvx
        clear hva hvx
      · go_wp2_with (go_at_call 57; refine (HVA.out _).mono ?_; rintro e w2 ⟨rfl, hb⟩; have HB2 := Lib.hid (HBX.out.trans (hb.mono HBX.out.size)); clear hb)
        go_round
        case rel => exact ⟨k + 1, by omega, by go_num, by rw [HT.out, HD.out, List.any_cons, HVX.out, Bool.false_or], HB2.out⟩
        case measure => simp [intOf]; omega
      · go_wp2_with (go_at_call 57; refine (HVA.out _).mono ?_; rintro e w2 ⟨rfl, hb⟩; have HB2 := Lib.hid (HBX.out.trans (hb.mono HBX.out.size)); clear hb)
        go_ret
        exact ⟨⟨k, rfl, by rw [HT.out, HD.out, List.any_cons, HVX.out]; simp⟩, HB2.out⟩
    · clear g1
      go_wp2
      go_ret
      exact ⟨⟨-1, rfl, by rw [HT.out, List.drop_of_length_le (by omega)]; simp⟩, HBX.out⟩
theorem containsF_any (p : Blocks) (v : Value) (l : List Opd) (w : World) (h : SlR opdR w p v l) :
    Calls Tryz.prog 56 #[v, .func (.func 57) #[] #[]] w fun e w' => e = .returned (.bool (l.any fun o => o.kind == 2)) ∧ Below w.heap.size w w' := by
  have HI := Lib.hid (indexF_any p v l w h)
  obtain ⟨a, c, rfl, _⟩ := h.opd
  clear h
  go_enter Tryz.func56, Tryz.ntmps56
  go_wp2_with (go_at_call 110; refine HI.out.mono ?_; rintro e w1 ⟨⟨r, rfl, hr⟩, hb⟩; have HB := Lib.hid hb; have HR := Lib.hid hr; clear hb hr)
  go_ret
  exact ⟨ret_bool HR.out, HB.out⟩
/-- documented, the program's way -/
def docT (pg op : Int) (s : ByteArray) (l : List Opd) (al : Bool) : Bool :=
  !al && ((s.toList != [83, 76, 76]) && (!(l.any fun o => o.kind == 2) && (!furB pg l && !((pg == 2) && ((op == 112) || (op == 113))))))
set_option maxHeartbeats 4000000 in
set_option maxRecDepth 100000 in
theorem Doc_any (pg op : Int) (s ex : ByteArray) (al : Bool) (l : List Opd) (p : Blocks) (v : Value) (w : World) (h : SlR opdR w p v l) :
    Calls Tryz.prog 21 #[.agg #[.int .i64 pg, .int .u8 op, .string s, v, .string ex, .bool al]] w fun e w' => e = .returned (.bool (docT pg op s l al)) ∧ Below w.heap.size w w' := by
  obtain ⟨va, vc, rfl⟩ : ∃ a c, v = .slice a l.length c := by obtain ⟨a, c, e, _⟩ := h; exact ⟨a, c, e⟩
  have H := Lib.hid ((Fr.start w).new 27 #[.int .i64 pg, .int .u8 op, .string s, .slice va l.length vc, .string ex, .bool al])
  have HS := Lib.hid (h.alloc (.cells #[.int .i64 pg, .int .u8 op, .string s, .slice va l.length vc, .string ex, .bool al] 27))
  have hll := h.len_le
  have HC := Lib.hid (fun W h => containsF_any p (.slice va l.length vc) l W h)
  have HD : Hid (docT pg op s l al = (!al && ((s.toList != [83, 76, 76]) && (!(l.any fun o => o.kind == 2) && (!furB pg l && !((pg == 2) && ((op == 112) || (op == 113)))))))) := rfl
  generalize docT pg op s l al = D at *
  clear h
  go_enter Tryz.func21, Tryz.ntmps21
  go_upto_region 3 with (go_at_call 56; refine (HC.out _ HS.out).mono ?_; rintro e w2 ⟨rfl, hb⟩; have H2 := Lib.hid (H.out.next hb); have HS2 := Lib.hid (HS.out.below hb); clear hb)
  generalize (l.any fun o => o.kind == 2) = half at *
  have q0 := (H2.out.blk 0 rfl).cell 0
  have q1 := (H2.out.blk 0 rfl).cell 1
  have q2 := (H2.out.blk 0 rfl).cell 2
  have q5 := (H2.out.blk 0 rfl).cell 5
  go_cut [5] (fun s5 wx => s5 = .bool (furB pg l) ∧ wx = w2)
  case first =>
    by_cases h5 : 5 ≤ pg
    · by_cases hl0 : 0 < l.length
      · obtain ⟨a1, c1, e1, _, _, g1⟩ := HS2.out.opd
        injection e1 with e1 e2 e3
        clear e2
        subst e1 e3
        obtain ⟨b, o, rfl, _, c0, _, _⟩ := g1 (l.length - 1) l[l.length - 1] (List.getElem?_eq_getElem (by omega))
        have HFU := Lib.hid (furB_at h5 hl0)
        clear g1
        generalize l[l.length - 1] = y at *
        obtain ⟨yk, yr, yn⟩ := y
        dsimp only at c0
        have hl1 : 1 ≤ l.length := hl0
        go_wp2
        go_meet
        case rel => exact ⟨by rw [HFU.out], rfl⟩
      · obtain rfl : l = [] := List.eq_nil_of_length_eq_zero (by omega)
        have HFU := Lib.hid (furB_nil pg)
        go_wp2
        go_meet
        case rel => exact ⟨by rw [HFU.out], rfl⟩
    · have HFU := Lib.hid (furB_low (l := l) h5)
      have hpg : pg < 5 := by omega
      go_wp2
      go_meet
      case rel => exact ⟨by rw [HFU.out], rfl⟩
  case rest =>
    obtain ⟨rfl, hwc⟩ := hcut
    subst wc
    generalize furB pg l = fb at *
    go_upto_region 4 with fail
    go_cut [6] (fun s6 wx => s6 = .bool ((pg == 2) && ((op == 112) || (op == 113))) ∧ wx = w2)
    case first =>
      cases h2 : (pg == 2)
      · go_wp2
        go_meet
        case rel => exact ⟨by rw [h2]; simp, rfl⟩
      cases h3 : (op == 112)
      all_goals
        go_wp2
        go_meet
        case rel => exact ⟨by rw [h2, h3]; simp, rfl⟩
    case rest =>
      obtain ⟨rfl, hwc⟩ := hcut
      subst wc
      generalize ((pg == 2) && ((op == 112) || (op == 113))) = pb at *
      cases al
      rotate_left
      · go_wp2
        go_ret
        exact ⟨ret_bool (by rw [HD.out]; rfl), H2.out.below⟩
      cases hs1 : (s.toList == [83, 76, 76])
      rotate_left
      · go_wp2
        go_ret
        exact ⟨ret_bool (by rw [HD.out]; simp [bne, hs1]), H2.out.below⟩
      cases half
      rotate_left
      · go_wp2
        go_ret
        exact ⟨ret_bool (by rw [HD.out]; simp [bne, hs1]), H2.out.below⟩
      cases fb
      rotate_left
      · go_wp2
        go_ret
        exact ⟨ret_bool (by rw [HD.out]; simp [bne, hs1]), H2.out.below⟩
      go_wp2
      go_ret
      exact ⟨ret_bool (by rw [HD.out]; simp [bne, hs1]), H2.out.below⟩
end Go.Proofs.YtlepicdjnbbndaaGreatDoor
