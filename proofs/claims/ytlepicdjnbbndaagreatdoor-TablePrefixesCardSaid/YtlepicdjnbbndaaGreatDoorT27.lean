/-
  breadboardlaw09.TablePrefixes. Conditions: the library's table as its initialiser lays it.
-/
import Derived.Test.YtlepicdjnbbndaaGreatDoorT26
namespace Go.Proofs.YtlepicdjnbbndaaGreatDoor
open Go.RowKit Go.Shelf Go.Sort

/-- the last page before k with these prefixes -/
def lastF (l : List UInt8) : Nat → Option Nat
  | 0 => none
  | k + 1 => if prefF k = l then some k else lastF l k
theorem last_page (l : List UInt8) : lastF l 7 = pageF l 7 0 := by
  by_cases h0 : prefF ((0 : Nat) : Int) = l
  · subst h0; decide +kernel
  by_cases h1 : prefF ((1 : Nat) : Int) = l
  · subst h1; decide +kernel
  by_cases h2 : prefF ((2 : Nat) : Int) = l
  · subst h2; decide +kernel
  by_cases h3 : prefF ((3 : Nat) : Int) = l
  · subst h3; decide +kernel
  by_cases h4 : prefF ((4 : Nat) : Int) = l
  · subst h4; decide +kernel
  by_cases h5 : prefF ((5 : Nat) : Int) = l
  · subst h5; decide +kernel
  by_cases h6 : prefF ((6 : Nat) : Int) = l
  · subst h6; decide +kernel
  rw [lastF, if_neg h6, lastF, if_neg h5, lastF, if_neg h4, lastF, if_neg h3, lastF, if_neg h2, lastF, if_neg h1, lastF, if_neg h0, lastF]
  rw [pageF, if_neg h0, pageF, if_neg h1, pageF, if_neg h2, pageF, if_neg h3, pageF, if_neg h4, pageF, if_neg h5, pageF, if_neg h6, pageF]
theorem page_pref (p : Int) : ∃ k : Nat, pageF (prefF p) 7 0 = some k ∧ (0 ≤ p → p < 7 → (k : Int) = p) := by
  by_cases h1 : p = 1
  · subst h1; exact ⟨1, by decide +kernel, fun _ _ => rfl⟩
  by_cases h2 : p = 2
  · subst h2; exact ⟨2, by decide +kernel, fun _ _ => rfl⟩
  by_cases h3 : p = 3
  · subst h3; exact ⟨3, by decide +kernel, fun _ _ => rfl⟩
  by_cases h4 : p = 4
  · subst h4; exact ⟨4, by decide +kernel, fun _ _ => rfl⟩
  by_cases h5 : p = 5
  · subst h5; exact ⟨5, by decide +kernel, fun _ _ => rfl⟩
  by_cases h6 : p = 6
  · subst h6; exact ⟨6, by decide +kernel, fun _ _ => rfl⟩
  refine ⟨0, ?_, fun _ _ => by omega⟩
  rw [prefF, if_neg h1, if_neg h2, if_neg h3, if_neg h4, if_neg h5, if_neg h6]
  decide +kernel
set_option maxHeartbeats 4000000 in
set_option maxRecDepth 100000 in
theorem TablePrefixes_any (pg : Int) (hpg : -128 ≤ pg ∧ pg ≤ 127) (p : Blocks) (v : Value) (l : List UInt8) (w : World) (h : SlR byteR w p v l) (hT : Spc w) :
    Calls Tryz.prog 6 #[.int .i8 pg, v] w fun e w' => e = .returned (.bool true) ∧ Below w.heap.size w w' := by
  have HAL := Lib.hid (fun W hT => alive9_any W hT)
  have HT := Lib.hid hT
  have H := Lib.hid h
  obtain ⟨va, vc, rfl⟩ : ∃ a c, v = .slice a l.length c := by obtain ⟨a, c, e, _⟩ := h; exact ⟨a, c, e⟩
  clear h hT
  by_cases hl : l.length > 20
  · have hl2 : (20 : Int) < (l.length : Int) := by omega
    go_enter Tryz.func6, Tryz.ntmps6
    go_wp2_with (first
      | (go_at_call 14; refine (HAL.out _ HT.out).mono ?_; rintro e w2 ⟨rfl, hb⟩; have HB := Lib.hid hb; clear hb))
    go_ret
    exact ⟨rfl, HB.out⟩
  · have hl2 : ¬ (20 : Int) < (l.length : Int) := by omega
    obtain ⟨kp, hkp, hkr⟩ := page_pref pg
    have HPF := Lib.hid (Prefixes_any pg w)
    have HPO := Lib.hid (fun q v W h => PageOf_any q v (prefF pg) W h)
    rw [hkp] at HPO
    simp only [Option.getD_some, Option.isSome_some] at HPO
    have HRP := Lib.hid (fun W => RefPrefixes_any pg W)
    have HRK := Lib.hid (fun k W => RefPrefixes_any k W)
    have HEQ := Lib.hid (fun q v1 l1 q2 v2 l2 W h1 h2 => EqualByte_any q q2 v1 v2 l1 l2 W h1 h2)
    have HPB := Lib.hid (fun W (h : SlR byteR W p (.slice va l.length vc) l) => PageOf_any p _ l W h)
    have HLP := Lib.hid (last_page l)
    obtain ⟨R, hR⟩ : ∃ R, R = pageF l 7 0 := ⟨_, rfl⟩
    rw [← hR] at HPB HLP
    generalize prefF pg = pl at *
    have HKR := Lib.hid hkr
    clear hkr hkp hR
    have hcv : IntKind.i64.wrap pg = pg := IntWalk.i64_in _ (by omega)
    by_cases h0 : 0 ≤ pg
    · by_cases h7 : pg < 7
      · obtain rfl : (kp : Int) = pg := HKR.out h0 h7
        go_enter Tryz.func6, Tryz.ntmps6
        go_wp2_with (first
          | (go_at_call 24; refine HPF.out.mono ?_; rintro e w1 ⟨v1, rfl, ho, hb⟩; obtain ⟨a1, c1, rfl⟩ := ho.form; have HB1 := Lib.hid hb; have HO1 := Lib.hid (ho.slR (q := fun k => w.heap.size ≤ k) (fun _ h => h.elim) (fun _ h => h)); clear ho hb)
          | (go_at_call 25; refine (HPO.out _ _ _ HO1.out).mono ?_; rintro e w2 ⟨rfl, hb⟩; have HB2 := Lib.hid (HB1.out.trans (hb.mono HB1.out.size)); have HO2 := Lib.hid (HO1.out.below hb); clear hb HO1 HB1)
          | (go_at_call 27; refine (HRP.out _).mono ?_; rintro e w3 ⟨v3, rfl, ho, hb⟩; obtain ⟨a3, c3, rfl⟩ := ho.form; have HB3 := Lib.hid (HB2.out.trans (hb.mono HB2.out.size)); have HO3 := Lib.hid (HO2.out.below hb); have HS3 := Lib.hid (ho.slR (q := fun _ => True) (fun _ h => h.elim) (fun _ _ => trivial)); clear ho hb HO2 HB2)
          | (go_at_call 26; refine (HEQ.out _ _ _ _ _ _ _ HO3.out HS3.out).mono ?_; rintro e w4 ⟨rfl, n4, rfl⟩; rw [decide_eq_true (rfl : pl = pl)]; have HB4 := Lib.hid (below_dN HB3.out n4); clear HO3 HS3 HB3)
          | (go_at_call 25; refine (HPB.out _ (H.out.below HB4.out)).mono ?_; rintro e w5 ⟨rfl, hb⟩; have HB5 := Lib.hid (HB4.out.trans (hb.mono HB4.out.size)); clear hb HB4))
        go_loopw [11, 12, 13, 56] (fun a b _ i wr => ∃ k : Nat, k ≤ 7 ∧ i = .int .i64 k ∧ a = .int .i64 ((lastF l k).getD 0) ∧ b = .bool (lastF l k).isSome ∧ Below w.heap.size w wr) (fun _ _ _ i _ => 7 - (intOf i).toNat)
        case atStart => exact ⟨0, Nat.zero_le _, rfl, rfl, rfl, HB5.out⟩
        case round =>
          clear HB5
          obtain ⟨k, hk, rfl, rfl, rfl, hb⟩ := hrel
          have HB := Lib.hid hb
          by_cases hlt : k < 7
          · have hst : lastF l (k + 1) = if prefF k = l then some k else lastF l k := rfl
            have hpl := HRK.out (k : Int)
            clear hb
            by_cases he : prefF k = l
            · rw [if_pos he] at hst
              have HST := Lib.hid hst
              have HD := Lib.hid he
              have HP := Lib.hid hpl
              generalize prefF (k : Int) = pk at *
              generalize (lastF l k) = lk at *
              clear hst he hpl
              go_wp2_with (first
                | (go_at_call 27; refine (HP.out _).mono ?_; rintro e w6 ⟨v6, rfl, ho, hb⟩; obtain ⟨a6, c6, rfl⟩ := ho.form; have HB6 := Lib.hid (HB.out.trans (hb.mono HB.out.size)); have HS6 := Lib.hid (ho.slR (q := fun _ => True) (fun _ h => h.elim) (fun _ _ => trivial)); clear ho hb)
                | (go_at_call 26; refine (HEQ.out _ _ _ _ _ _ _ HS6.out (H.out.below HB6.out)).mono ?_; rintro e w7 ⟨rfl, n7, rfl⟩; rw [decide_eq_true HD.out]))
              go_roundw
              case rel => exact ⟨k + 1, by omega, by go_num, by rw [HST.out]; rfl, by rw [HST.out]; rfl, below_dN HB6.out _⟩
              case measure => simp [intOf]; omega
            · rw [if_neg he] at hst
              have HST := Lib.hid hst
              have HD := Lib.hid he
              have HP := Lib.hid hpl
              generalize prefF (k : Int) = pk at *
              generalize (lastF l k) = lk at *
              clear hst he hpl
              go_wp2_with (first
                | (go_at_call 27; refine (HP.out _).mono ?_; rintro e w6 ⟨v6, rfl, ho, hb⟩; obtain ⟨a6, c6, rfl⟩ := ho.form; have HB6 := Lib.hid (HB.out.trans (hb.mono HB.out.size)); have HS6 := Lib.hid (ho.slR (q := fun _ => True) (fun _ h => h.elim) (fun _ _ => trivial)); clear ho hb)
                | (go_at_call 26; refine (HEQ.out _ _ _ _ _ _ _ HS6.out (H.out.below HB6.out)).mono ?_; rintro e w7 ⟨rfl, n7, rfl⟩; rw [decide_eq_false HD.out]))
              go_roundw
              case rel => exact ⟨k + 1, by omega, by go_num, by rw [HST.out], by rw [HST.out], below_dN HB6.out _⟩
              case measure => simp [intOf]; omega
          · obtain rfl : k = 7 := by omega
            rw [HLP.out]
            generalize R.isSome = rs at *
            generalize R.getD 0 = rv at *
            clear hb
            go_wp2_with (go_at_call 14; refine (HAL.out _ (HT.out.below HB.out)).mono ?_; rintro e w8 ⟨rfl, hb⟩; have HB8 := Lib.hid (HB.out.trans (hb.mono HB.out.size)); clear hb)
            go_ret
            exact ⟨rfl, HB8.out⟩
      · go_enter Tryz.func6, Tryz.ntmps6
        go_wp2_with (first
          | (go_at_call 24; refine HPF.out.mono ?_; rintro e w1 ⟨v1, rfl, ho, hb⟩; obtain ⟨a1, c1, rfl⟩ := ho.form; have HB1 := Lib.hid hb; have HO1 := Lib.hid (ho.slR (q := fun k => w.heap.size ≤ k) (fun _ h => h.elim) (fun _ h => h)); clear ho hb)
          | (go_at_call 25; refine (HPO.out _ _ _ HO1.out).mono ?_; rintro e w2 ⟨rfl, hb⟩; have HB2 := Lib.hid (HB1.out.trans (hb.mono HB1.out.size)); have HO2 := Lib.hid (HO1.out.below hb); clear hb HO1 HB1)
          | (go_at_call 27; refine (HRP.out _).mono ?_; rintro e w3 ⟨v3, rfl, ho, hb⟩; obtain ⟨a3, c3, rfl⟩ := ho.form; have HB3 := Lib.hid (HB2.out.trans (hb.mono HB2.out.size)); have HO3 := Lib.hid (HO2.out.below hb); have HS3 := Lib.hid (ho.slR (q := fun _ => True) (fun _ h => h.elim) (fun _ _ => trivial)); clear ho hb HO2 HB2)
          | (go_at_call 26; refine (HEQ.out _ _ _ _ _ _ _ HO3.out HS3.out).mono ?_; rintro e w4 ⟨rfl, n4, rfl⟩; rw [decide_eq_true (rfl : pl = pl)]; have HB4 := Lib.hid (below_dN HB3.out n4); clear HO3 HS3 HB3)
          | (go_at_call 25; refine (HPB.out _ (H.out.below HB4.out)).mono ?_; rintro e w5 ⟨rfl, hb⟩; have HB5 := Lib.hid (HB4.out.trans (hb.mono HB4.out.size)); clear hb HB4))
        go_loopw [11, 12, 13, 56] (fun a b _ i wr => ∃ k : Nat, k ≤ 7 ∧ i = .int .i64 k ∧ a = .int .i64 ((lastF l k).getD 0) ∧ b = .bool (lastF l k).isSome ∧ Below w.heap.size w wr) (fun _ _ _ i _ => 7 - (intOf i).toNat)
        case atStart => exact ⟨0, Nat.zero_le _, rfl, rfl, rfl, HB5.out⟩
        case round =>
          clear HB5
          obtain ⟨k, hk, rfl, rfl, rfl, hb⟩ := hrel
          have HB := Lib.hid hb
          by_cases hlt : k < 7
          · have hst : lastF l (k + 1) = if prefF k = l then some k else lastF l k := rfl
            have hpl := HRK.out (k : Int)
            clear hb
            by_cases he : prefF k = l
            · rw [if_pos he] at hst
              have HST := Lib.hid hst
              have HD := Lib.hid he
              have HP := Lib.hid hpl
              generalize prefF (k : Int) = pk at *
              generalize (lastF l k) = lk at *
              clear hst he hpl
              go_wp2_with (first
                | (go_at_call 27; refine (HP.out _).mono ?_; rintro e w6 ⟨v6, rfl, ho, hb⟩; obtain ⟨a6, c6, rfl⟩ := ho.form; have HB6 := Lib.hid (HB.out.trans (hb.mono HB.out.size)); have HS6 := Lib.hid (ho.slR (q := fun _ => True) (fun _ h => h.elim) (fun _ _ => trivial)); clear ho hb)
                | (go_at_call 26; refine (HEQ.out _ _ _ _ _ _ _ HS6.out (H.out.below HB6.out)).mono ?_; rintro e w7 ⟨rfl, n7, rfl⟩; rw [decide_eq_true HD.out]))
              go_roundw
              case rel => exact ⟨k + 1, by omega, by go_num, by rw [HST.out]; rfl, by rw [HST.out]; rfl, below_dN HB6.out _⟩
              case measure => simp [intOf]; omega
            · rw [if_neg he] at hst
              have HST := Lib.hid hst
              have HD := Lib.hid he
              have HP := Lib.hid hpl
              generalize prefF (k : Int) = pk at *
              generalize (lastF l k) = lk at *
              clear hst he hpl
              go_wp2_with (first
                | (go_at_call 27; refine (HP.out _).mono ?_; rintro e w6 ⟨v6, rfl, ho, hb⟩; obtain ⟨a6, c6, rfl⟩ := ho.form; have HB6 := Lib.hid (HB.out.trans (hb.mono HB.out.size)); have HS6 := Lib.hid (ho.slR (q := fun _ => True) (fun _ h => h.elim) (fun _ _ => trivial)); clear ho hb)
                | (go_at_call 26; refine (HEQ.out _ _ _ _ _ _ _ HS6.out (H.out.below HB6.out)).mono ?_; rintro e w7 ⟨rfl, n7, rfl⟩; rw [decide_eq_false HD.out]))
              go_roundw
              case rel => exact ⟨k + 1, by omega, by go_num, by rw [HST.out], by rw [HST.out], below_dN HB6.out _⟩
              case measure => simp [intOf]; omega
          · obtain rfl : k = 7 := by omega
            rw [HLP.out]
            generalize R.isSome = rs at *
            generalize R.getD 0 = rv at *
            clear hb
            go_wp2_with (go_at_call 14; refine (HAL.out _ (HT.out.below HB.out)).mono ?_; rintro e w8 ⟨rfl, hb⟩; have HB8 := Lib.hid (HB.out.trans (hb.mono HB.out.size)); clear hb)
            go_ret
            exact ⟨rfl, HB8.out⟩
    · go_enter Tryz.func6, Tryz.ntmps6
      go_wp2_with (first
        | (go_at_call 24; refine HPF.out.mono ?_; rintro e w1 ⟨v1, rfl, ho, hb⟩; obtain ⟨a1, c1, rfl⟩ := ho.form; have HB1 := Lib.hid hb; have HO1 := Lib.hid (ho.slR (q := fun k => w.heap.size ≤ k) (fun _ h => h.elim) (fun _ h => h)); clear ho hb)
        | (go_at_call 25; refine (HPO.out _ _ _ HO1.out).mono ?_; rintro e w2 ⟨rfl, hb⟩; have HB2 := Lib.hid (HB1.out.trans (hb.mono HB1.out.size)); have HO2 := Lib.hid (HO1.out.below hb); clear hb HO1 HB1)
        | (go_at_call 27; refine (HRP.out _).mono ?_; rintro e w3 ⟨v3, rfl, ho, hb⟩; obtain ⟨a3, c3, rfl⟩ := ho.form; have HB3 := Lib.hid (HB2.out.trans (hb.mono HB2.out.size)); have HO3 := Lib.hid (HO2.out.below hb); have HS3 := Lib.hid (ho.slR (q := fun _ => True) (fun _ h => h.elim) (fun _ _ => trivial)); clear ho hb HO2 HB2)
        | (go_at_call 26; refine (HEQ.out _ _ _ _ _ _ _ HO3.out HS3.out).mono ?_; rintro e w4 ⟨rfl, n4, rfl⟩; rw [decide_eq_true (rfl : pl = pl)]; have HB4 := Lib.hid (below_dN HB3.out n4); clear HO3 HS3 HB3)
        | (go_at_call 25; refine (HPB.out _ (H.out.below HB4.out)).mono ?_; rintro e w5 ⟨rfl, hb⟩; have HB5 := Lib.hid (HB4.out.trans (hb.mono HB4.out.size)); clear hb HB4))
      go_loopw [11, 12, 13, 56] (fun a b _ i wr => ∃ k : Nat, k ≤ 7 ∧ i = .int .i64 k ∧ a = .int .i64 ((lastF l k).getD 0) ∧ b = .bool (lastF l k).isSome ∧ Below w.heap.size w wr) (fun _ _ _ i _ => 7 - (intOf i).toNat)
      case atStart => exact ⟨0, Nat.zero_le _, rfl, rfl, rfl, HB5.out⟩
      case round =>
        clear HB5
        obtain ⟨k, hk, rfl, rfl, rfl, hb⟩ := hrel
        have HB := Lib.hid hb
        by_cases hlt : k < 7
        · have hst : lastF l (k + 1) = if prefF k = l then some k else lastF l k := rfl
          have hpl := HRK.out (k : Int)
          clear hb
          by_cases he : prefF k = l
          · rw [if_pos he] at hst
            have HST := Lib.hid hst
            have HD := Lib.hid he
            have HP := Lib.hid hpl
            generalize prefF (k : Int) = pk at *
            generalize (lastF l k) = lk at *
            clear hst he hpl
            go_wp2_with (first
              | (go_at_call 27; refine (HP.out _).mono ?_; rintro e w6 ⟨v6, rfl, ho, hb⟩; obtain ⟨a6, c6, rfl⟩ := ho.form; have HB6 := Lib.hid (HB.out.trans (hb.mono HB.out.size)); have HS6 := Lib.hid (ho.slR (q := fun _ => True) (fun _ h => h.elim) (fun _ _ => trivial)); clear ho hb)
              | (go_at_call 26; refine (HEQ.out _ _ _ _ _ _ _ HS6.out (H.out.below HB6.out)).mono ?_; rintro e w7 ⟨rfl, n7, rfl⟩; rw [decide_eq_true HD.out]))
            go_roundw
            case rel => exact ⟨k + 1, by omega, by go_num, by rw [HST.out]; rfl, by rw [HST.out]; rfl, below_dN HB6.out _⟩
            case measure => simp [intOf]; omega
          · rw [if_neg he] at hst
            have HST := Lib.hid hst
            have HD := Lib.hid he
            have HP := Lib.hid hpl
            generalize prefF (k : Int) = pk at *
            generalize (lastF l k) = lk at *
            clear hst he hpl
            go_wp2_with (first
              | (go_at_call 27; refine (HP.out _).mono ?_; rintro e w6 ⟨v6, rfl, ho, hb⟩; obtain ⟨a6, c6, rfl⟩ := ho.form; have HB6 := Lib.hid (HB.out.trans (hb.mono HB.out.size)); have HS6 := Lib.hid (ho.slR (q := fun _ => True) (fun _ h => h.elim) (fun _ _ => trivial)); clear ho hb)
              | (go_at_call 26; refine (HEQ.out _ _ _ _ _ _ _ HS6.out (H.out.below HB6.out)).mono ?_; rintro e w7 ⟨rfl, n7, rfl⟩; rw [decide_eq_false HD.out]))
            go_roundw
            case rel => exact ⟨k + 1, by omega, by go_num, by rw [HST.out], by rw [HST.out], below_dN HB6.out _⟩
            case measure => simp [intOf]; omega
        · obtain rfl : k = 7 := by omega
          rw [HLP.out]
          generalize R.isSome = rs at *
          generalize R.getD 0 = rv at *
          clear hb
          go_wp2_with (go_at_call 14; refine (HAL.out _ (HT.out.below HB.out)).mono ?_; rintro e w8 ⟨rfl, hb⟩; have HB8 := Lib.hid (HB.out.trans (hb.mono HB.out.size)); clear hb)
          go_ret
          exact ⟨rfl, HB8.out⟩
end Go.Proofs.YtlepicdjnbbndaaGreatDoor
