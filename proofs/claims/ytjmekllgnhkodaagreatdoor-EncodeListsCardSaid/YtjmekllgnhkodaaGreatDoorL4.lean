/-
  Law of chapter 11, EncodeLists. Conditions: the library's table as its initialiser lays it.
-/
import Derived.Test.YtjmekllgnhkodaaGreatDoorL3
namespace Go.Proofs.YtjmekllgnhkodaaGreatDoor
open Go.RowKit Go.Shelf Go.Sort

theorem mild_of9 {x : Ins} (hs : short8 x = true) (hf : ∀ z ∈ x.args, fits64 z.n) : Mild x := by
  unfold short8 at hs
  obtain ⟨h1, h2⟩ := Bool.and_eq_true_iff.1 hs
  exact ⟨of_decide_eq_true h1, of_decide_eq_true h2, hf⟩
set_option maxHeartbeats 8000000 in
set_option maxRecDepth 100000 in
theorem EncodeLists_law (l : List Ins) (p : Blocks) (v : Value) (w : World) (h : SlR insSR w p v l) (hT : Spc w) (hf : ∀ x ∈ l, ∀ z ∈ x.args, fits64 z.n) :
    Calls Tryz.prog 11 #[v] w fun e w' => e = .returned (.bool true) ∧ RowKit.Below w.heap.size w w' := by
  have HAL := Lib.hid (fun W (hb : RowKit.Below w.heap.size w W) => alive11_any W (hT.below hb))
  have HS := Lib.hid h
  have HTT := Lib.hid hT
  have HFF := Lib.hid hf
  obtain ⟨a, c, rfl, _, _, _⟩ := h.ins
  clear h hT hf
  by_cases h12 : 12 < l.length
  · have h12' : (12 : Int) < (l.length : Int) := by omega
    go_enter Tryz.func11, Tryz.ntmps11
    go_wp2_with (go_at_call 27; refine (HAL.out _ (Below.refl _ _)).mono ?_; rintro e w1 ⟨rfl, hb⟩; have H1 := Lib.hid hb; clear hb)
    go_ret
    exact ⟨rfl, H1.out⟩
  have h12' : ¬ (12 : Int) < (l.length : Int) := by omega
  have HL := Lib.hid h12
  clear h12
  go_enter Tryz.func11, Tryz.ntmps11
  go_wp2
  go_loopw [4, 17] (fun _ i wr => ∃ k : Nat, k ≤ l.length ∧ i = .int .i64 k ∧ (∀ x ∈ l.take k, short8 x = true) ∧ RowKit.Below w.heap.size w wr) (fun _ i _ => l.length - (intOf i).toNat)
  case atStart => exact ⟨0, Nat.zero_le _, rfl, (fun x hx => by simp at hx), Below.refl _ _⟩
  case round =>
    obtain ⟨k, hk, rfl, hm, hb⟩ := hrel
    have HM := Lib.hid hm
    have HB := Lib.hid hb
    clear hm hb
    by_cases hlt : k < l.length
    · obtain ⟨a2, c2, e2, _, _, hg⟩ := (HS.out.below HB.out).ins
      injection e2 with e2 e3 e4
      clear e3
      subst e2 e4
      obtain ⟨b1, o1, va, rfl, _, d0, d1, hso⟩ := hg k l[k] (List.getElem?_eq_getElem hlt)
      have HD := Lib.hid (List.take_succ_eq_append_getElem hlt)
      obtain ⟨ea, ec, rfl⟩ : ∃ a c, va = .slice a l[k].args.length c := by obtain ⟨a, c, e, _⟩ := hso; exact ⟨a, c, e⟩
      have HI := Lib.hid ((Below.refl wr.heap.size wr).alloc (Nat.le_refl _) (.cells #[.string l[k].op, .slice ea l[k].args.length ec] 27))
      have HSH := Lib.hid (short11_any _ l[k] (.slice ea l[k].args.length ec) _ (hso.below HI.out))
      clear hg hso
      generalize l[k] = x at *
      generalize hB9 : short8 x = B9 at *
      have HB9 := Lib.hid hB9
      clear hB9
      cases B9
      · go_wp2_with (first
          | (go_at_call 26; refine (HSH.out).mono ?_; rintro e w1 ⟨rfl, hb1⟩; have HB1 := Lib.hid (HB.out.trans ((HI.out.trans (hb1.mono HI.out.size)).mono HB.out.size)); clear hb1)
          | (go_at_call 27; refine (HAL.out _ HB1.out).mono ?_; rintro e w2 ⟨rfl, hb⟩; have H2 := Lib.hid (HB1.out.trans (hb.mono HB1.out.size)); clear hb))
        go_ret
        exact ⟨rfl, H2.out⟩
      · go_wp2_with (go_at_call 26; refine (HSH.out).mono ?_; rintro e w1 ⟨rfl, hb1⟩; have HB1 := Lib.hid (HB.out.trans ((HI.out.trans (hb1.mono HI.out.size)).mono HB.out.size)); clear hb1)
        go_roundw
        case rel => exact ⟨k + 1, by omega, by go_num, (fun y hy => by
          rw [HD.out] at hy
          rcases List.mem_append.1 hy with hy | hy
          · exact HM.out y hy
          · rw [List.mem_singleton.1 hy]; exact HB9.out), HB1.out⟩
        case measure => simp [intOf]; omega
    · obtain rfl : k = l.length := by omega
      have hm9 : ∀ x ∈ l, Mild x := fun x hx => mild_of9 (HM.out x (by rw [List.take_length]; exact hx)) (HFF.out x hx)
      have HA := Lib.hid (fun W (hb : RowKit.Below w.heap.size w W) => AllE_any p (.slice a l.length c) l W (HS.out.below hb) (HTT.out.below hb) hm9 (by have := HL.out; omega))
      have HA2 := Lib.hid (fun W (hb : RowKit.Below w.heap.size w W) => All11_any p (.slice a l.length c) l W (HS.out.below hb) hm9 (by have := HL.out; omega))
      clear hm9 hlt
      unfold AllP at HA HA2
      cases hst : stopE l 0 with
      | some kc =>
        obtain ⟨k9, c9⟩ := kc
        rw [hst] at HA HA2
        clear hst
        have HEQ := Lib.hid (fun W => EqualByte_any NoB NoB (.slice none 0 0) (.slice none 0 0) [] [] W (SlR.nil _ _ _) (SlR.nil _ _ _))
        go_wp2_with (first
          | (go_at_call 45; refine (HA.out _ HB.out).mono ?_; rintro e w1 ⟨rfl, hb⟩; have H1 := Lib.hid (HB.out.trans (hb.mono HB.out.size)); clear hb)
          | (go_at_call 46; refine (HA2.out _ H1.out).mono ?_; rintro e w2 ⟨rfl, hb⟩; have H2 := Lib.hid (H1.out.trans (hb.mono H1.out.size)); clear hb)
          | (go_at_call 27; refine (HAL.out _ H2.out).mono ?_; rintro e w3 ⟨rfl, hb⟩; have H3 := Lib.hid (H2.out.trans (hb.mono H2.out.size)); clear hb)
          | (go_at_call 31; refine (HEQ.out _).mono ?_; rintro e w4 ⟨rfl, n4, hw4⟩; subst hw4))
        go_ret
        exact ⟨rfl, below_dN H3.out _⟩
      | none =>
        rw [hst] at HA HA2
        clear hst
        generalize (l.map encB).flatten = T at *
        go_wp2_with (first
          | (go_at_call 45; refine (HA.out _ HB.out).mono ?_; rintro e w1 ⟨⟨v1, rfl, ho⟩, hb⟩; obtain ⟨xa, xc, rfl⟩ := ho.form; have HX := Lib.hid (Own.slR (q := fun _ => True) ho (fun _ h => h.elim) (fun _ _ => trivial)); have H1 := Lib.hid (HB.out.trans (hb.mono HB.out.size)); clear hb ho)
          | (go_at_call 46; refine (HA2.out _ H1.out).mono ?_; rintro e w2 ⟨⟨v2, rfl, ho⟩, hb⟩; obtain ⟨ya, yc, rfl⟩ := ho.form; have HY := Lib.hid (Own.slR (q := fun _ => True) ho (fun _ h => h.elim) (fun _ _ => trivial)); have HX2 := Lib.hid (HX.out.below hb); have H2 := Lib.hid (H1.out.trans (hb.mono H1.out.size)); clear hb ho)
          | (go_at_call 27; refine (HAL.out _ H2.out).mono ?_; rintro e w3 ⟨rfl, hb⟩; have H3 := Lib.hid (H2.out.trans (hb.mono H2.out.size)); have HX3 := Lib.hid (HX2.out.below hb); have HY3 := Lib.hid (HY.out.below hb); clear hb)
          | (go_at_call 31; refine (EqualByte_any _ _ _ _ T T _ HX3.out HY3.out).mono ?_; rintro e w4 ⟨rfl, n4, hw4⟩; rw [show decide (T = T) = true from decide_eq_true rfl]; subst hw4))
        go_ret
        exact ⟨rfl, below_dN H3.out _⟩
end Go.Proofs.YtjmekllgnhkodaaGreatDoor
