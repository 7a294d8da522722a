/-
  Law of chapter 13, ItemsJoins. Conditions: the library's table as its initialiser lays it.
-/
import Derived.Test.YtnbmbcjnncbaiaaGreatDoorJ12
import Derived.Test.YtnbmbcjnncbaiaaGreatDoorJ13
import Derived.Test.YtnbmbcjnncbaiaaGreatDoorL1
namespace Go.Proofs.YtnbmbcjnncbaiaaGreatDoor
open Go.RowKit Go.Shelf Go.Sort

theorem rows2 {w : World} {g : Nat} {t : TypeId} {va vb : Value} {la lb : List UInt8} (hb : Blk w g t #[va, vb]) (h1 : SlR byteR w (fun _ => True) va la) (h2 : SlR byteR w (fun _ => True) vb lb) : SlR rowR w (fun _ => True) (.slice (some ⟨g, 0, none⟩) 2 2) [la, lb] :=
  ⟨some ⟨g, 0, none⟩, 2, rfl, Nat.le_refl _, by decide, fun i x hx => by
    match i, hx with
    | 0, hx => simp at hx; subst hx; exact ⟨g, 0, [va], rfl, trivial, hb.lt, fun j v hv => (match j, hv with | 0, hv => by simp at hv; subst hv; exact hb.cell 0), va, rfl, h1⟩
    | 1, hx => simp at hx; subst hx; exact ⟨g, 0, [vb], rfl, trivial, hb.lt, fun j v hv => (match j, hv with | 0, hv => by simp at hv; subst hv; exact hb.cell 1), vb, rfl, h2⟩⟩
theorem its2 {w : World} {g : Nat} {t : TypeId} {va vb : Value} {la lb : List It} (hb : Blk w g t #[va, vb]) (h1 : SlR itR w (fun _ => True) va la) (h2 : SlR itR w (fun _ => True) vb lb) : SlR itsR w (fun _ => True) (.slice (some ⟨g, 0, none⟩) 2 2) [la, lb] :=
  ⟨some ⟨g, 0, none⟩, 2, rfl, Nat.le_refl _, by decide, fun i x hx => by
    match i, hx with
    | 0, hx => simp at hx; subst hx; exact ⟨g, 0, [va], rfl, trivial, hb.lt, fun j v hv => (match j, hv with | 0, hv => by simp at hv; subst hv; exact hb.cell 0), va, rfl, h1⟩
    | 1, hx => simp at hx; subst hx; exact ⟨g, 0, [vb], rfl, trivial, hb.lt, fun j v hv => (match j, hv with | 0, hv => by simp at hv; subst hv; exact hb.cell 1), vb, rfl, h2⟩⟩
set_option maxHeartbeats 8000000 in
set_option maxRecDepth 100000 in
theorem ItemsJoins_law (p q : Blocks) (v1 v2 : Value) (l1 l2 : List UInt8) (w : World) (h1 : SlR byteR w p v1 l1) (h2 : SlR byteR w q v2 l2) (hT : Spc w) :
    Calls Tryz.prog 8 #[v1, v2] w fun e w' => e = .returned (.bool true) ∧ RowKit.Below w.heap.size w w' := by
  obtain ⟨a, c, rfl⟩ : ∃ a c, v1 = .slice a l1.length c := by obtain ⟨a, c, e, _⟩ := h1; exact ⟨a, c, e⟩
  obtain ⟨a2, c2, rfl⟩ : ∃ a c, v2 = .slice a l2.length c := by obtain ⟨a, c, e, _⟩ := h2; exact ⟨a, c, e⟩
  have HAL := Lib.hid (fun W (hb : RowKit.Below w.heap.size w W) => alive13_any W (hT.below hb))
  have H1 := Lib.hid (h1.mono (q := fun _ => True) (fun _ _ => trivial))
  have H2 := Lib.hid (h2.mono (q := fun _ => True) (fun _ _ => trivial))
  have HT := Lib.hid hT
  clear h1 h2 hT
  by_cases hl1 : 500 < l1.length
  · have hl1' : (500 : Int) < (l1.length : Int) := by omega
    go_enter Tryz.func8, Tryz.ntmps8
    go_wp2_with (go_at_call 24; refine (HAL.out _ (Below.refl _ _)).mono ?_; rintro e w1 ⟨rfl, hb⟩; have H1 := Lib.hid hb; clear hb)
    go_ret
    exact ⟨rfl, H1.out⟩
  have hl1' : ¬ (500 : Int) < (l1.length : Int) := by omega
  by_cases hl2 : 500 < l2.length
  · have hl2' : (500 : Int) < (l2.length : Int) := by omega
    go_enter Tryz.func8, Tryz.ntmps8
    go_wp2_with (go_at_call 24; refine (HAL.out _ (Below.refl _ _)).mono ?_; rintro e w1 ⟨rfl, hb⟩; have H1 := Lib.hid hb; clear hb)
    go_ret
    exact ⟨rfl, H1.out⟩
  have hl2' : ¬ (500 : Int) < (l2.length : Int) := by omega
  have HD1 := Lib.hid (Dec13_any _ a c l1 w H1.out (by omega))
  have HD2 := Lib.hid (fun W (hb : RowKit.Below w.heap.size w W) => Dec13_any _ a2 c2 l2 W (H2.out.below hb) (by omega))
  have HDC := Lib.hid (fun q a c W (hb : RowKit.Below w.heap.size w W) h => Dec_any q a c (l1 ++ l2) W (HT.out.below hb) h (by rw [List.length_append]; omega))
  have HAP := Lib.hid (items_app l1 l2)
  have HCT := Lib.hid (itemsF_cut l1)
  have hn1 := itemsF_len l1
  have hn2 := itemsF_len l2
  have HCB := Lib.hid (fun v W h => Concat_any (fun _ => True) v [l1, l2] W h (show 2 ≤ 1000 by decide) (by simp; omega))
  have HCI := Lib.hid (fun v W h => ConcatI_any (fun _ => True) v [itemsF l1, itemsF l2] W h (show 2 ≤ 1000 by decide) (by simp; omega))
  rw [show [l1, l2].flatten = l1 ++ l2 by simp] at HCB
  rw [show [itemsF l1, itemsF l2].flatten = itemsF l1 ++ itemsF l2 by simp] at HCI
  have HN : Hid ((itemsF l1).length ≤ 500) := Lib.hid (by omega)
  clear hl1 hl2 hn1 hn2
  generalize l1 ++ l2 = LL at *
  generalize itemsF LL = L at *
  generalize itemsF l1 = L1 at *
  generalize itemsF l2 = L2 at *
  go_enter Tryz.func8, Tryz.ntmps8
  go_upto_region 4 with (first
    | (go_at_call 25; (with_reducible refine (HD1.out).mono ?_); rintro e w1 ⟨⟨v1, rfl, ha⟩, hb⟩; obtain ⟨xa, xc, rfl⟩ := ha.form; have HA1 := Lib.hid (ha.slR.mono (q := fun _ => True) (fun _ _ => trivial)); have HB1 := Lib.hid hb; clear ha hb)
    | (go_at_call 25; (with_reducible refine (HD2.out _ HB1.out).mono ?_); rintro e w2 ⟨⟨v2, rfl, ha⟩, hb⟩; obtain ⟨ya, yc, rfl⟩ := ha.form; have HA2 := Lib.hid (ha.slR.mono (q := fun _ => True) (fun _ _ => trivial)); have HX2 := Lib.hid (HA1.out.below hb); have HB2 := Lib.hid (HB1.out.trans (hb.mono HB1.out.size)); clear ha hb))
  by_cases hz : L1.length = 0
  · have HE : Hid (L1 ++ L2 = L) := Lib.hid (HAP.out (fun x hx => by rw [List.length_eq_zero_iff.1 hz] at hx; cases hx)).symm
    rw [HE.out] at HCI
    have hz' : ¬ (0 : Int) < (L1.length : Int) := by omega
    clear hz
    go_wp2_with (first
      | (go_at_call 24; refine (HAL.out _ HB2.out).mono ?_; rintro e w3 ⟨rfl, hb⟩; have HX3 := Lib.hid (HX2.out.below hb); have HY3 := Lib.hid (HA2.out.below hb); have HB3 := Lib.hid (HB2.out.trans (hb.mono HB2.out.size)); clear hb)
      | (go_at_call 33; refine (HCB.out _ _ (rows2 (Blk.new w3 22 _) (H1.out.below (HB3.out.alloc HB3.out.size _)) (H2.out.below (HB3.out.alloc HB3.out.size _)))).mono ?_; rintro e w5 ⟨v5, rfl, ho, hb⟩; obtain ⟨za, zc, rfl⟩ := ho.form; have HO5 := Lib.hid (ho.slR (q := fun _ => True) (fun _ h => h.elim) (fun _ _ => trivial)); have hba := HB3.out.alloc HB3.out.size (.cells #[.slice a l1.length c, .slice a2 l2.length c2] 22); have HB5 := Lib.hid (hba.trans (hb.mono hba.size)); have HX5 := Lib.hid ((HX3.out.alloc (.cells #[.slice a l1.length c, .slice a2 l2.length c2] 22)).below hb); have HY5 := Lib.hid ((HY3.out.alloc (.cells #[.slice a l1.length c, .slice a2 l2.length c2] 22)).below hb); clear ho hb hba)
      | (go_at_call 32; refine (HDC.out _ _ _ _ HB5.out HO5.out).mono ?_; rintro e w6 ⟨⟨v6, rfl, ha⟩, hb⟩; obtain ⟨ta, tc, rfl⟩ := ha.form; have HA6 := Lib.hid (ha.slR.mono (q := fun _ => True) (fun _ _ => trivial)); have HX6 := Lib.hid (HX5.out.below hb); have HY6 := Lib.hid (HY5.out.below hb); have HB6 := Lib.hid (HB5.out.trans (hb.mono HB5.out.size)); clear ha hb)
      | (go_at_call 34; refine (HCI.out _ _ (its2 (Blk.new w6 tIL _) (HX6.out.alloc _) (HY6.out.alloc _))).mono ?_; rintro e w8 ⟨v8, rfl, ho, hb⟩; obtain ⟨sa, sc, rfl⟩ := ho.form; have HO8 := Lib.hid (ho.slR (q := fun _ => True) (fun _ _ => trivial) (fun _ _ => trivial)); have HB8 := Lib.hid ((HB6.out.alloc HB6.out.size _).trans (hb.mono (HB6.out.alloc HB6.out.size _).size)); have HA8 := Lib.hid ((HA6.out.alloc _).below hb); clear ho hb)
      | (go_at_call 31; refine (SameL_any _ _ _ _ L L _ HA8.out HO8.out).mono ?_; rw [lsEq_iff.2 rfl]; rintro e w9 ⟨rfl, hb⟩; have HB9 := Lib.hid (HB8.out.trans (hb.mono HB8.out.size)); clear hb))
    go_ret
    exact ⟨rfl, HB9.out⟩
  · obtain ⟨i, hi⟩ : ∃ i, L1.length = i + 1 := ⟨L1.length - 1, by omega⟩
    have hil : i < L1.length := by omega
    obtain ⟨a9, c9, e9, _, _, g9⟩ := HX2.out.it
    injection e9 with e9 e10 e11
    clear e10
    subst e9 e11
    obtain ⟨b9, o9, ra9, rc9, va9, vc9, rfl, _, x0, _⟩ := g9 i L1[i] (List.getElem?_eq_getElem hil)
    have HLK : Hid (∀ j (x : It), L1[j]? = some x → x.k = 4 → x = L1[i]) := Lib.hid (fun j x hx hk => by
      have := HCT.out j x hx hk
      have hj : j = i := by omega
      subst hj
      rw [List.getElem?_eq_getElem hil] at hx
      injection hx with hx
      exact hx.symm)
    generalize L1[i] = y at *
    obtain ⟨k9, R9, op9, ar9, al9⟩ := y
    dsimp only at x0
    have hw9 : IntKind.i64.wrap ((L1.length : Int) - 1) = (i : Int) := by have := HN.out; rw [IntKind.wrap_i64]; omega
    have hz' : (0 : Int) < (L1.length : Int) := by omega
    have hil' : (i : Int) < (L1.length : Int) := by omega
    have hia : (0 : Int) ≤ (i : Int) := by omega
    clear g9 hz hi
    by_cases hk4 : k9 = 4
    · subst hk4
      go_wp2_with (go_at_call 24; refine (HAL.out _ HB2.out).mono ?_; rintro e w3 ⟨rfl, hb⟩; have HB3 := Lib.hid (HB2.out.trans (hb.mono HB2.out.size)); clear hb)
      go_ret
      exact ⟨rfl, HB3.out⟩
    · have HE : Hid (L1 ++ L2 = L) := Lib.hid (HAP.out (fun x hx hk => by
        obtain ⟨j, hj, e⟩ := List.getElem_of_mem hx
        have := HLK.out j x (by rw [List.getElem?_eq_getElem hj, e]) hk
        rw [this] at hk
        exact hk4 hk)).symm
      rw [HE.out] at HCI
      have hk4' : (k9 == 4) = false := by rw [beq_eq_false_iff_ne]; exact hk4
      go_wp2_with (first
        | (go_at_call 24; refine (HAL.out _ HB2.out).mono ?_; rintro e w3 ⟨rfl, hb⟩; have HX3 := Lib.hid (HX2.out.below hb); have HY3 := Lib.hid (HA2.out.below hb); have HB3 := Lib.hid (HB2.out.trans (hb.mono HB2.out.size)); clear hb)
        | (go_at_call 33; refine (HCB.out _ _ (rows2 (Blk.new w3 22 _) (H1.out.below (HB3.out.alloc HB3.out.size _)) (H2.out.below (HB3.out.alloc HB3.out.size _)))).mono ?_; rintro e w5 ⟨v5, rfl, ho, hb⟩; obtain ⟨za, zc, rfl⟩ := ho.form; have HO5 := Lib.hid (ho.slR (q := fun _ => True) (fun _ h => h.elim) (fun _ _ => trivial)); have hba := HB3.out.alloc HB3.out.size (.cells #[.slice a l1.length c, .slice a2 l2.length c2] 22); have HB5 := Lib.hid (hba.trans (hb.mono hba.size)); have HX5 := Lib.hid ((HX3.out.alloc (.cells #[.slice a l1.length c, .slice a2 l2.length c2] 22)).below hb); have HY5 := Lib.hid ((HY3.out.alloc (.cells #[.slice a l1.length c, .slice a2 l2.length c2] 22)).below hb); clear ho hb hba)
        | (go_at_call 32; refine (HDC.out _ _ _ _ HB5.out HO5.out).mono ?_; rintro e w6 ⟨⟨v6, rfl, ha⟩, hb⟩; obtain ⟨ta, tc, rfl⟩ := ha.form; have HA6 := Lib.hid (ha.slR.mono (q := fun _ => True) (fun _ _ => trivial)); have HX6 := Lib.hid (HX5.out.below hb); have HY6 := Lib.hid (HY5.out.below hb); have HB6 := Lib.hid (HB5.out.trans (hb.mono HB5.out.size)); clear ha hb)
        | (go_at_call 34; refine (HCI.out _ _ (its2 (Blk.new w6 tIL _) (HX6.out.alloc _) (HY6.out.alloc _))).mono ?_; rintro e w8 ⟨v8, rfl, ho, hb⟩; obtain ⟨sa, sc, rfl⟩ := ho.form; have HO8 := Lib.hid (ho.slR (q := fun _ => True) (fun _ _ => trivial) (fun _ _ => trivial)); have HB8 := Lib.hid ((HB6.out.alloc HB6.out.size _).trans (hb.mono (HB6.out.alloc HB6.out.size _).size)); have HA8 := Lib.hid ((HA6.out.alloc _).below hb); clear ho hb)
        | (go_at_call 31; refine (SameL_any _ _ _ _ L L _ HA8.out HO8.out).mono ?_; rw [lsEq_iff.2 rfl]; rintro e w9 ⟨rfl, hb⟩; have HB9 := Lib.hid (HB8.out.trans (hb.mono HB8.out.size)); clear hb))
      go_ret
      exact ⟨rfl, HB9.out⟩
end Go.Proofs.YtnbmbcjnncbaiaaGreatDoor
