/-
  slices.Grow and slices.Concat over items. Conditions: sizes.
-/
import Derived.Test.YtnbmbcjnncbaiaaGreatDoorJ5
import Derived.Lib.AppendZerosOnto
namespace Go.Proofs.YtnbmbcjnncbaiaaGreatDoor
open Go.RowKit Go.Shelf Go.Sort

/-- an item of noughts -/
def zI : Value := .agg #[.int .i64 0, .slice none 0 0, .string ⟨#[]⟩, .slice none 0 0, .bool false]
/-- A list of items, in one cell. -/
def itsR : Rep (List It) where
  size := 1
  rel := fun w p cs x => ∃ v, cs = [v] ∧ SlR itR w p v x
  len := fun ⟨_, e, _⟩ => by subst e; rfl
  keep := fun hk ⟨v, e, h⟩ => ⟨v, e, h.keep hk⟩
  mono := fun hp ⟨v, e, h⟩ => ⟨v, e, h.mono hp⟩
  old := fun ⟨v, e, h⟩ => ⟨v, e, h.old⟩
  one := fun ⟨v, e, a, cap, hv, _⟩ u hu => by subst e; subst hv; simp at hu; subst hu; rfl
theorem SlR.its {w : World} {p : Blocks} {v : Value} {l : List (List It)} (h : SlR itsR w p v l) : ∃ a cap, v = .slice a l.length cap ∧ l.length ≤ cap ∧ cap ≤ 9223372036854775807 ∧
    ∀ i x, l[i]? = some x → ∃ b o va vc, a = some ⟨b, o, none⟩ ∧ b < w.heap.size ∧ w.cell? ⟨b, o + i, none⟩ = some (.slice va x.length vc) ∧ SlR itR w p (.slice va x.length vc) x := by
  obtain ⟨a, cap, e, h1, h2, h3⟩ := h
  refine ⟨a, cap, e, h1, h2, fun i x hx => ?_⟩
  obtain ⟨b, o, cs, ea, _, hb, hc, v2, hr, hs⟩ := h3 i x hx
  subst hr
  obtain ⟨va, vc, rfl⟩ : ∃ a c, v2 = .slice a x.length c := by obtain ⟨a, c, e, _⟩ := hs; exact ⟨a, c, e⟩
  have := hc 0 _ rfl
  rw [show o + i * itsR.size + 0 = o + i from by show o + i * 1 + 0 = _; omega] at this
  exact ⟨b, o, va, vc, ea, hb, this, hs⟩
theorem row_sizeI (n G : Nat) (h : 0 + n ≤ G) : (([] : List Value).toArray ++ Builtin.zeroCells zI.cells n ++ Builtin.zeroCells zI.cells (G - (0 + n))).size = G * 5 := by
  simp [size_zeroCells, show zI.cells.size = 5 from rfl]; omega
set_option maxHeartbeats 4000000 in
set_option maxRecDepth 100000 in
theorem GrowI_any (n : Nat) (hn : n ≤ 1000000) (w : World) :
    Calls Tryz.prog 65 #[.slice none 0 0, .int .i64 n] w fun e w' => ∃ v, e = .returned v ∧ Own itR w' w.heap.size 29 NoB v [] ∧ RowKit.Below w.heap.size w w' := by
  by_cases h0 : n = 0
  · subst h0
    go_enter Tryz.func65, Tryz.ntmps65
    go_wp2
    go_ret
    exact ⟨_, rfl, Own.nil _ _ _ _ _, Below.refl _ _⟩
  · have h1 : ¬ ((n : Int) < 0) := by omega
    have h4 : (n : Int) > 0 := by omega
    have hi : Tryz.prog.info? 29 = some ((Tryz.prog.info? 29).get (by kernel_rfl)) := (Option.some_get _).symm
    obtain ⟨i, hI⟩ : ∃ i, i = (Tryz.prog.info? 29).get (by kernel_rfl) := ⟨_, rfl⟩
    have hz : i.zero = some zI := by rw [hI]; kernel_rfl
    have hs : i.size = 5 := by rw [hI]; kernel_rfl
    have hby : i.bytes = 80 := by rw [hI]; kernel_rfl
    rw [← hI] at hi
    have hfit : Builtin.nextslicecap (0 + n) 0 * i.bytes ≤ 281474976710656 := growslice_fits (by omega) (by rw [hby]; omega)
    have hrz : ∀ ty, (Builtin.append_ #[39, 3] ty #[.slice none 0 0, .int .i64 n]).run Tryz.prog w = .ok (.slice (some ⟨w.heap.size, 0, none⟩) (0 + n) (grownCap w (0 + n) 0 29)) (w.drew.alloc (.cells (([] : List Value).toArray ++ Builtin.zeroCells zI.cells n ++ Builtin.zeroCells zI.cells (grownCap w (0 + n) 0 29 - (0 + n))) 29)) := fun ty =>
      Lib.run_append_grow_zeros w 39 3 ty 29 i zI .i64 .i64 Tryz.underlying39 Tryz.underlying3 hi hz none 0 0 [] (run_firstCells_none w.drew i.size 0 0 0) n (by omega) (by omega) (by omega) (by omega) (by rw [hby]; omega) hfit
    have hGn : 0 + n ≤ grownCap w (0 + n) 0 29 := grownCap_ge w _ _ _
    have hG63 : grownCap w (0 + n) 0 29 ≤ 9223372036854775807 := by
      have := grownCap_le_maxLen w (0 + n) 0 29 (by unfold maxLen; omega)
      unfold maxLen at this; omega
    have HO : Hid (Own itR (w.drew.alloc (.cells (([] : List Value).toArray ++ Builtin.zeroCells zI.cells n ++ Builtin.zeroCells zI.cells (grownCap w (0 + n) 0 29 - (0 + n))) 29)) w.heap.size 29 NoB (.slice (some ⟨w.heap.size, 0, none⟩) 0 (grownCap w (0 + n) 0 29)) []) := Lib.hid ⟨[], ⟨rfl, .inr ⟨_, _, _, rfl, Nat.le_refl _, Blk.new w.drew _ _, Nat.zero_le _, by unfold maxLen; omega, by rw [row_sizeI _ _ hGn]; rfl, by simp⟩⟩, rfl⟩
    have HB : Hid (RowKit.Below w.heap.size w (w.drew.alloc (.cells (([] : List Value).toArray ++ Builtin.zeroCells zI.cells n ++ Builtin.zeroCells zI.cells (grownCap w (0 + n) 0 29 - (0 + n))) 29))) := Lib.hid ((Below.refl _ _).drew.alloc (Nat.le_refl _) _)
    rw [Nat.zero_add] at hrz hGn hG63 HO HB
    generalize grownCap w n 0 29 = G at *
    generalize w.drew.alloc (.cells (([] : List Value).toArray ++ Builtin.zeroCells zI.cells n ++ Builtin.zeroCells zI.cells (G - n)) 29) = W1 at *
    clear hfit hi hz hs hby hI
    go_enter Tryz.func65, Tryz.ntmps65
    go_wp2_with (at_builtin; refine Lib.wpList_append_run _ rfl _ _ _ _ rfl _ _ rfl rfl _ _ (hrz _) ?_)
    all_goals
      go_ret
      exact ⟨_, rfl, HO.out, HB.out⟩
set_option maxHeartbeats 4000000 in
set_option maxRecDepth 100000 in
theorem ConcatI_any (p : Blocks) (v : Value) (ls : List (List It)) (w : World) (h : SlR itsR w p v ls) (hl : ls.length ≤ 1000) (hf : ls.flatten.length ≤ 1000000) :
    Calls Tryz.prog 34 #[v] w fun e w' => ∃ v', e = .returned v' ∧ Own itR w' w.heap.size 29 (fun k => p k ∧ k < w.heap.size) v' ls.flatten ∧ RowKit.Below w.heap.size w w' := by
  obtain ⟨a, c, rfl, _, _, hc⟩ := h.its
  have HH := Lib.hid h
  have HC := Lib.hid hc
  have HF := Lib.hid hf
  have HL := Lib.hid hl
  clear h hc hf
  have HTK : Hid (∀ k (hk : k < ls.length), (ls.take (k + 1)).flatten = (ls.take k).flatten ++ ls[k]) := Lib.hid (fun k hk => by rw [List.take_succ_eq_append_getElem hk, List.flatten_append, List.flatten_singleton])
  have HTL : Hid (∀ k, (ls.take k).flatten.length ≤ ls.flatten.length) := Lib.hid (fun k => by
    conv => rhs; rw [← List.take_append_drop k ls]
    rw [List.flatten_append, List.length_append]; omega)
  go_enter Tryz.func34, Tryz.ntmps34
  go_wp2
  go_loopw [3, 5, 11] (fun s _ i wr => ∃ k : Nat, k ≤ ls.length ∧ i = .int .i64 k ∧ s = .int .i64 ((ls.take k).flatten.length : Int) ∧ wr = w) (fun _ _ i _ => ls.length - (intOf i).toNat)
  case atStart => exact ⟨0, Nat.zero_le _, rfl, by simp, by first | rfl | trivial⟩
  case round =>
    obtain ⟨k, hk, rfl, rfl, hwr⟩ := hrel
    obtain rfl := hwr.symm
    by_cases hlt : k < ls.length
    · obtain ⟨b, o, va, vc, rfl, _, hcell, hrow⟩ := HC.out k ls[k] (List.getElem?_eq_getElem hlt)
      have e1 := congrArg List.length (HTK.out k hlt)
      rw [List.length_append] at e1
      have e2 := HTL.out (k + 1)
      have e3 := HF.out
      have HE : Hid ((((ls.take (k + 1)).flatten.length : Nat) : Int) = ((ls.take k).flatten.length : Int) + (ls[k].length : Int)) := Lib.hid (by rw [e1]; push_cast; rfl)
      have e4 : (ls.take k).flatten.length + ls[k].length ≤ 1000000 := by omega
      have hw1 : IntKind.i64.wrap (((ls.take k).flatten.length : Int) + (ls[k].length : Int)) = ((ls.take k).flatten.length : Int) + (ls[k].length : Int) := by rw [IntKind.wrap_i64]; omega
      have hn1 : ¬ (((ls.take k).flatten.length : Int) + (ls[k].length : Int)) < 0 := by omega
      clear e1 e2 e3 e4 hrow
      generalize ls[k].length = m at *
      generalize (ls.take k).flatten.length = t at *
      go_wp2
      go_roundw
      case rel => exact ⟨k + 1, by omega, by go_num, by rw [HE.out], by first | rfl | trivial⟩
      case measure => simp [intOf]; omega
    · obtain rfl : k = ls.length := by omega
      have e2 := HTL.out ls.length
      have e3 := HF.out
      have HGR := Lib.hid (fun W => GrowI_any (ls.take ls.length).flatten.length (by omega) W)
      generalize (ls.take ls.length).flatten.length = T0 at *
      clear e2 e3 hlt
      go_wp2_with (go_at_call 65; refine (HGR.out _).mono ?_; rintro e w1 ⟨v1, rfl, ho1, hb1⟩; obtain ⟨qa, qc, rfl⟩ := ho1.form; have HO1 := Lib.hid ho1; have HB1 := Lib.hid hb1; clear ho1 hb1)
      go_loopw [6, 8, 27] (fun vo _ i wr => ∃ k : Nat, k ≤ ls.length ∧ i = .int .i64 k ∧ Own itR wr w.heap.size 29 (fun k => p k ∧ k < w.heap.size) vo (ls.take k).flatten ∧ RowKit.Below w.heap.size w wr) (fun _ _ i _ => ls.length - (intOf i).toNat)
      case atStart => exact ⟨0, Nat.zero_le _, rfl, HO1.out.mono (fun _ h => h.elim), HB1.out⟩
      case round =>
        obtain ⟨k, hk, rfl, ho, hb⟩ := hrel
        clear HO1 HB1 HGR
        obtain ⟨ua, uc, rfl⟩ := ho.form
        have HO := Lib.hid ho
        have HB := Lib.hid hb
        by_cases hlt : k < ls.length
        · obtain ⟨b, o, va, vc, rfl, hbl, hcell, hrow⟩ := HC.out k ls[k] (List.getElem?_eq_getElem hlt)
          have hcell : wr.cell? ⟨b, o + k, none⟩ = some (.slice va ls[k].length vc) := by
            have := hb.block b hbl
            unfold World.cell? at hcell ⊢; rw [this]; exact hcell
          have HR := Lib.hid ((hrow.old).below hb)
          have e1 := congrArg List.length (HTK.out k hlt)
          rw [List.length_append] at e1
          have e2 := HTL.out (k + 1)
          have e3 := HF.out
          have HN : Hid ((ls.take k).flatten.length + ls[k].length ≤ 1000000) := Lib.hid (by omega)
          have HK2 := Lib.hid (HTK.out k hlt)
          have HQ : Hid (∀ j, p j ∧ j < w.heap.size → some j ≠ Value.ownBlock (.slice ua (ls.take k).flatten.length uc)) := Lib.hid (fun j hj e => by have := (HO.out.lt j e.symm).1; omega)
          clear e1 e2 e3 hrow ho hb
          generalize ls[k] = x at *
          generalize (ls.take k).flatten = T at *
          go_wp2_with (at_builtin; refine wpList_append_R _ rfl (.tmp 31) (.tmp 32) 39 rfl w.heap.size 29 80 elIT (fun k => p k ∧ k < w.heap.size) (fun k => p k ∧ k < w.heap.size) _ _ T x rfl rfl HO.out HR.out HQ.out HQ.out (by have := HN.out; omega) (by have := HN.out; omega) HB.out.size ?_; intro v' w' hap; obtain ⟨ho, hg, _⟩ := hap; have HO2 := Lib.hid (ho.mono (fun k h => h.elim id id)); have HB2 := Lib.hid (HB.out.grown hg HB.out.size (fun k e => (HO.out.lt k e).1)); clear ho hg)
          go_roundw
          case rel => exact ⟨k + 1, by omega, by go_num, by rw [HK2.out]; exact HO2.out, HB2.out⟩
          case measure => simp [intOf]; omega
        · obtain rfl : k = ls.length := by omega
          have HTT : Hid (ls.take ls.length = ls) := Lib.hid List.take_length
          clear hlt
          go_wp2
          go_ret
          exact ⟨_, rfl, by rw [← congrArg List.flatten HTT.out]; exact HO.out, HB.out⟩
end Go.Proofs.YtnbmbcjnncbaiaaGreatDoor
