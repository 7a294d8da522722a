/-
  breadboardref07.Upper; THE STATEMENT InstrMakes: the walk of the law. Conditions: none.
-/
import Derived.Test.YtkkjoghfdmmpaaaDoorChecks3
namespace Go.Proofs.YtkkjoghfdmmpaaaDoor
open Go.RowKit

/-- 'append([]api.Operand{}, l...)', as the walk writes it. -/
theorem own_of_empty {w : World} {p : Blocks} {v : Value} {l : List Opd} (h : SlR opdR w p v l) (hl : l.length ≤ 1000000) (ty : TypeId) :
    ∃ a c w', (Builtin.append_ #[37, 37] ty #[.slice (some ⟨w.heap.size, 0, none⟩) 0 0, v]).run Tryd.prog (w.alloc (.cells #[] 47)) = .ok (.slice a l.length c) w' ∧
      Own opdR w' w.heap.size 47 NoB (.slice a l.length c) l ∧ Below w.heap.size w w' := by
  have HB : Below w.heap.size w (w.alloc (.cells #[] 47)) := below_alloc w _
  obtain ⟨v', w', hrun, ho, hg, _⟩ := run_append_R (P := Tryd.prog) (R := opdR) (w := w.alloc (.cells #[] 47)) w.heap.size 37 ty 47 24 elOpd (p := NoB) (q := fun k => p k ∧ k < w.heap.size) (v := .slice (some ⟨w.heap.size, 0, none⟩) 0 0)
    (vx := v) (xs := []) (ys := l) (Own.made w _ _) (h.old.below HB) (fun _ hk => hk.elim) (fun k hk e => by simp [Value.ownBlock] at e; omega) (by simp; omega) (by simp; omega) HB.size
  have ho2 := ho.opd NoB
  rw [List.nil_append] at ho2
  obtain ⟨a, c, rfl⟩ := ho2.form
  exact ⟨a, c, w', hrun, ho2, HB.grown hg HB.size (fun k hk => by cases hk; exact Nat.le_refl _)⟩
theorem wpList_append_empty {ops : Array Oper} {rest : List Oper} {o : Oper} {a : Act} {w : World} {Q : Exit → Act → World → Prop} (hgd : o.guard = none) (s x : Operand)
    (ho : o.op = .call { callee := .builtin .append, args := #[s, x], argTypes := #[37, 37] }) (p : Blocks) (v : Value) (l : List Opd)
    (hs : a.eval s = .slice (some ⟨w.heap.size, 0, none⟩) 0 0) (hxe : a.eval x = v) (h : SlR opdR w p v l) (hl : l.length ≤ 1000000)
    (hk : ∀ a' c' w', Own opdR w' w.heap.size 47 NoB (.slice a' l.length c') l → Below w.heap.size w w' → wpList Tryd.prog ops Q rest (a.put o.dst (.slice a' l.length c')) w') :
    wpList Tryd.prog ops Q (o :: rest) a (w.alloc (.cells #[] 47)) :=
  wpList_plain hgd fun K hK => by
    obtain ⟨a', c', w', hrun, h2, h3⟩ := own_of_empty h hl o.type
    unfold Oper.wp execOp
    simp only [ho, resolve, invoke, builtin, Sem.run_bind, Sem.run_pure, Result.andThen_ok, List.map_toArray, List.map_cons, List.map_nil, hs, hxe, hrun]
    exact hK _ _ (hk a' c' w' h2 h3)

set_option maxHeartbeats 1000000 in
theorem Upper07_any (p : Blocks) (s : ByteArray) (v : Value) (l : List Opd) (w : World) (h : SlR opdR w p v l) (hl : l.length ≤ 1000000) (hs : s.size ≤ 1000000) :
    Calls Tryd.prog 54 #[.string s, v] w fun e w' => (∃ v', e = .returned (.agg #[.string (upper s), v']) ∧ SlR opdR w' (fun _ => True) v' l) ∧ Below w.heap.size w w' := by
  obtain ⟨a, c, rfl, _⟩ := h.opd
  have H := Lib.hid h
  have HL := Lib.hid hl
  have HA : Hid (Below w.heap.size w (w.alloc (.cells #[.string ⟨#[]⟩, .slice none 0 0] 39))) := below_alloc w _
  have HK : Hid (Blk (w.alloc (.cells #[.string ⟨#[]⟩, .slice none 0 0] 39)) w.heap.size 39 #[.string ⟨#[]⟩, .slice none 0 0]) := Blk.new w _ _
  clear h hl
  go_enter Tryd.func54, Tryd.ntmps54
  go_wp2_with fail
  refine (Upper01_any s _ hs).mono ?_
  rintro e w1 ⟨rfl, hb⟩
  have HB1 := Lib.hid (HA.out.trans (hb.mono HA.out.size))
  have HS1 := Lib.hid (H.out.below HB1.out)
  have HK1 := Lib.hid (HK.out.below hb HK.out.lt)
  clear hb
  go_wp2_with (at_builtin; refine wpList_append_empty rfl (.tmp 7) (.tmp 8) rfl p _ l rfl rfl HS1.out HL.out ?_; intro a' c' w' ho hb; have HO := Lib.hid ho; have HB2 := Lib.hid (HB1.out.trans (hb.mono HB1.out.size)); have HK2 := Lib.hid (HK1.out.below hb HK1.out.lt); obtain ⟨c0, c1, f0, f1⟩ := HK2.out.two; clear ho hb)
  have hk3 := (HK2.out.set 0 (.string (upper s))).set 1 (.slice a' l.length c')
  refine bodyPost_ret (results_cell_row rfl _ _ w.heap.size 39 #[.string (upper s), .slice a' l.length c'] (0, 0) _ rfl hk3 Tryd.underlying39 rfl (by kernel_rfl)) rfl ⟨⟨_, rfl, ?_⟩, ?_⟩
  · have hlt := HK1.out.lt
    have := (HO.out.slR (q := fun k => w.heap.size < k) (fun _ h => h.elim) (fun k hk => by omega))
    exact ((this.keep (Keep.setCell (fun k hk => by show k ≠ w.heap.size; omega) _)).keep (Keep.setCell (fun k hk => by show k ≠ w.heap.size; omega) _)).mono fun _ _ => trivial
  · exact (HB2.out.setCell (p := ⟨w.heap.size, 0, none⟩) (Nat.le_refl _) _).setCell (p := ⟨w.heap.size, 1, none⟩) (Nat.le_refl _) _

/-- What stands while InstrMakes works: the operands that came in, the instruction made of the copy. -/
structure MkH (w0 : World) (p : Blocks) (l : List Opd) (s : ByteArray) (B b6 : Nat) (va vi vo : Value) (l' : List Opd) (w : World) : Prop where
  below : Below w0.heap.size w0 w
  spc0 : Spc w0
  sl : SlR opdR w0 p va l
  made : SlR opdR w (fun k => B ≤ k) vi l
  blk : Blk w b6 39 #[.string (upper s), vi]
  h6 : B ≤ b6
  hB : w0.heap.size ≤ B
  own : OpdOwn w (fun k => w0.heap.size ≤ k ∧ k < B) vo l'
theorem MkH.next {w0 : World} {p : Blocks} {l l' : List Opd} {s : ByteArray} {B b6 : Nat} {va vi vo : Value} {w w' : World} (h : MkH w0 p l s B b6 va vi vo l' w) (hb : Below w.heap.size w w') : MkH w0 p l s B b6 va vi vo l' w' :=
  ⟨h.below.trans (hb.mono h.below.size), h.spc0, h.sl, h.made.below hb, h.blk.below hb h.blk.lt, h.h6, h.hB, h.own.below hb⟩
theorem MkH.setN {w0 : World} {p : Blocks} {l l' : List Opd} {s : ByteArray} {B b6 b o n c k : Nat} {va vi : Value} {x : Opd} {m : Int} {w : World} (h : MkH w0 p l s B b6 va vi (.slice (some ⟨b, o, none⟩) n c) l' w) (hx : l'[k]? = some x) (hq : w0.heap.size ≤ b ∧ b < B) :
    MkH w0 p l s B b6 va vi (.slice (some ⟨b, o, none⟩) n c) (l'.set k { x with n := m }) (w.setCell ⟨b, o + k * 3 + 2, none⟩ (.int .i64 m)) :=
  ⟨h.below.setCell hq.1 _, h.spc0, h.sl, h.made.keep (Keep.setCell (fun k hk => by show k ≠ b; omega) _), h.blk.far (by have := h.h6; show b6 ≠ b; omega) _, h.h6, h.hB, h.own.setN hx⟩

set_option maxHeartbeats 4000000 in
theorem InstrMakes_any (p : Blocks) (s : ByteArray) (l : List Opd) (v : Value) (w : World) (h : SlR opdR w p v l) (hT : Spc w) (hz : s.size ≤ maxLen) :
    Calls Tryd.prog 12 #[.string s, v] w fun e w' => e = .returned (.bool true) ∧ Below w.heap.size w w' := by
  obtain ⟨a, c, rfl, hlc, _⟩ := h.opd
  have H := Lib.hid h
  have HT := Lib.hid hT
  unfold maxLen at hz
  by_cases h1 : s.size ≤ 100
  · by_cases h2 : l.length ≤ 20
    · have HL := Lib.hid (show l.length ≤ 1000000 by omega)
      have HZ := Lib.hid (show s.size ≤ 1000000 by omega)
      clear h hT
      go_enter Tryd.func12, Tryd.ntmps12
      go_wp2_with (at_builtin; refine wpList_append_empty rfl (.tmp 17) (.tmp 18) rfl p _ l rfl rfl H.out HL.out ?_; intro a' c' w1 ho hb; have HO := Lib.hid ho; have HB1 := Lib.hid hb; clear ho hb)
      refine (Make_any _ s _ l w1 (HO.out.slR (q := fun _ => True) (fun _ _ => trivial) (fun _ _ => trivial)) HL.out hz).mono ?_
      rintro e w2 ⟨v2, rfl, ho2, hb⟩
      have hlt1 := HO.out.lt
      have hz1 := HB1.out.size
      have hz2 := hb.size
      obtain ⟨a2, c2, rfl⟩ := ho2.form
      have H0 : Hid (MkH w p l s w1.heap.size w2.heap.size (.slice a l.length c) (.slice a2 l.length c2) (.slice a' l.length c') l (w2.alloc (.cells #[.string (upper s), .slice a2 l.length c2] 39))) :=
        ⟨(HB1.out.trans (hb.mono HB1.out.size)).alloc (Nat.le_trans hz1 hz2) _, HT.out, H.out, (ho2.slR (q := fun k => w1.heap.size ≤ k) (fun _ h => h.elim) (fun _ h => h)).alloc _, Blk.new w2 _ _, hz2, hz1,
          ((HO.out.opdOwn (q := fun k => w.heap.size ≤ k ∧ k < w1.heap.size) fun k hk => hlt1 k hk).below hb).below (below_alloc w2 _)⟩
      clear hb ho2 hlt1 hz1 hz2
      go_wp2
      go_loopw [25] (fun i wr => ∃ (k : Nat) (l' : List Opd), k ≤ l.length ∧ i = .int .i64 k ∧ l'.length = l.length ∧ MkH w p l s w1.heap.size w2.heap.size (.slice a l.length c) (.slice a2 l.length c2) (.slice a' l.length c') l' wr) (fun i _ => l.length - (intOf i).toNat)
      case atStart => exact ⟨0, l, Nat.zero_le _, rfl, rfl, H0.out⟩
      case round =>
        obtain ⟨k, l', hk, rfl, hl', hh⟩ := hrel
        have HR := Lib.hid hh
        have HLL := Lib.hid hl'
        by_cases hlt : k < l.length
        · obtain ⟨y, hat⟩ : ∃ y, l'[k]? = some y := ⟨l'[k]'(by omega), List.getElem?_eq_getElem _⟩
          obtain ⟨ax, cx, ex, _, _, g⟩ := hh.own
          injection ex with e1 e2 e3
          clear e2
          subst e1 e3
          obtain ⟨b, o, rfl, hq, hb, c0, c1, c2', fr⟩ := g k _ hat
          have f2 := fr (o + k * 3 + 2)
          have HSET := Lib.hid (fun m => HR.out.setN (m := m) hat hq)
          clear g hat fr hq hh hl'
          go_wp2
          go_roundw
          case rel => exact ⟨k + 1, _, by omega, by go_num, by rw [List.length_set]; exact HLL.out, HSET.out _⟩
          case measure => simp [intOf]; omega
        · obtain ⟨p0, p1, _, _⟩ := hh.blk.two
          have HRd := Lib.hid (HR.out.next (below_drew _))
          have HUL : Hid ((upper s).size ≤ 1000000) := by have := upper_size s; show _ ≤ _; omega
          clear hh hl'
          go_upto_region 10 with fail
          go_region_held3 (fun w' => w'.cell? ⟨w2.heap.size, 0, none⟩ = some (.string (upper s)) ∧ w'.cell? ⟨w2.heap.size, 1, none⟩ = some (.slice a2 l.length c2)) (go_keep)
            (first | (go_at_call 47; refine (alive7_any _ (HRd.out.spc0.below HRd.out.below)).mono ?_; rintro e w3 ⟨rfl, hb⟩; have H3 := Lib.hid (HRd.out.next hb); obtain ⟨f0, f1, _, _⟩ := H3.out.blk.two; clear hb)
                   | (go_at_call 54; refine (Upper07_any p s _ l _ (H3.out.sl.below H3.out.below) HL.out HZ.out).mono ?_; rintro e w4 ⟨⟨v4, rfl, h4⟩, hb⟩; have H4 := Lib.hid (H3.out.next hb); have HS4 := Lib.hid h4; obtain ⟨f0, f1, _, _⟩ := H4.out.blk.two; clear hb h4)
                   | (go_at_call 32; refine (ref07Same_any _ _ ⟨upper s, l⟩ ⟨upper s, l⟩ _ _ _ H4.out.made HS4.out).mono ?_; rw [insEq_refl]; rintro e w5 ⟨rfl, hb⟩; have H5 := Lib.hid (H4.out.next hb); obtain ⟨f0, f1, _, _⟩ := H5.out.blk.two; clear hb)
                   | (go_at_call 55; refine (Known_any s _ (H5.out.spc0.below H5.out.below) HZ.out).mono ?_; rintro e w6 ⟨rfl, hb⟩; have H6 := Lib.hid (H5.out.next hb); obtain ⟨f0, f1, _, _⟩ := H6.out.blk.two; clear hb)
                   | (go_at_call 57; refine (Upper01_any s _ HZ.out).mono ?_; rintro e w7 ⟨rfl, hb⟩; have H7 := Lib.hid (H6.out.next hb); obtain ⟨f0, f1, _, _⟩ := H7.out.blk.two; clear hb)
                   | (go_at_call 56; refine (known07_any (upper s) _).mono ?_; rintro e w8 ⟨rfl, hb⟩; have H8 := Lib.hid (H7.out.next hb); obtain ⟨f0, f1, _, _⟩ := H8.out.blk.two; clear hb)
                   | (go_at_call 59; refine (ops_any _ (H8.out.spc0.below H8.out.below)).mono ?_; rintro e w9 ⟨v9, rfl, h9, hb⟩; have H9 := Lib.hid (H8.out.next hb); have HS9 := Lib.hid h9; obtain ⟨f0, f1, _, _⟩ := H9.out.blk.two; clear hb h9)
                   | (go_at_call 60; refine (ops07_any _).mono ?_; rintro e w10 ⟨v10, rfl, h10, hb⟩; have H10 := Lib.hid (H9.out.next hb); have HS10 := Lib.hid h10; have HS9b := Lib.hid (HS9.out.below hb); obtain ⟨f0, f1, _, _⟩ := H10.out.blk.two; clear hb h10)
                   | (go_at_call 58; refine (EqualStr_any _ _ _ _ _ _ _ HS9b.out HS10.out).mono ?_; rw [decide_eq_true rfl]; rintro e w11 ⟨rfl, hb⟩; have H11 := Lib.hid (H10.out.next hb); obtain ⟨f0, f1, _, _⟩ := H11.out.blk.two; clear hb))
          go_wp2
          go_ret
          exact ⟨rfl, H11.out.below⟩
    · clear h hT
      go_enter Tryd.func12, Tryd.ntmps12
      go_wp2_with (go_at_call 47; refine (alive7_any _ HT.out).mono ?_; rintro e w3 ⟨rfl, hb⟩; have HB := Lib.hid hb; clear hb)
      go_ret
      exact ⟨rfl, HB.out⟩
  · clear h hT
    go_enter Tryd.func12, Tryd.ntmps12
    go_wp2_with (go_at_call 47; refine (alive7_any _ HT.out).mono ?_; rintro e w3 ⟨rfl, hb⟩; have HB := Lib.hid hb; clear hb)
    go_ret
    exact ⟨rfl, HB.out⟩
end Go.Proofs.YtkkjoghfdmmpaaaDoor
