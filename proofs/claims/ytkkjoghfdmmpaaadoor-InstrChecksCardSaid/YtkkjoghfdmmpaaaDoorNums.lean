/-
  THE NUMBERS OF AN INSTRUCTION: the reference's Numbers and instr.Numbers.
-/
import Derived.Test.YtkkjoghfdmmpaaaDoorText2
import Derived.Test.YtkkjoghfdmmpaaaDoorMake
namespace Go.Proofs.YtkkjoghfdmmpaaaDoor
open Go.RowKit

def intR : Rep Int := Rep.flat 1 (fun n => [.int .i64 n]) (fun _ => rfl) (fun _ u hu => by simp at hu; subst hu; rfl)
theorem elInt : ElT Tryd.prog 68 3 intR.size 8 := ElT.mk' (z := .int .i64 0) Tryd.underlying68 (by kernel_rfl) rfl (by decide)
def numsOf (l : List Opd) : List Int := (l.filter hasNum).map (·.n)
theorem numsOf_len (l : List Opd) : (numsOf l).length ≤ l.length := by simp [numsOf]; exact List.length_filter_le _ _
theorem numsOf_yes {l : List Opd} {k : Nat} {x : Opd} (h : l.take k ++ [x] = l.take (k + 1)) (hx : hasNum x = true) : numsOf (l.take (k + 1)) = numsOf (l.take k) ++ [x.n] := by
  rw [← h]; simp [numsOf, hx]
theorem numsOf_no {l : List Opd} {k : Nat} {x : Opd} (h : l.take k ++ [x] = l.take (k + 1)) (hx : hasNum x = false) : numsOf (l.take (k + 1)) = numsOf (l.take k) := by
  rw [← h]; simp [numsOf, hx]
theorem Own.stay {α : Type} {R : Rep α} {w w' : World} {B : Nat} {e : TypeId} {v : Value} {xs : List α} (h : Own R w B e NoB v xs) (hb : Below w.heap.size w w') : Own R w' B e NoB v xs :=
  h.keep (Keep.of_below hb (fun k hk => by rcases hk with hk | hk; exact hk.elim; exact (h.lt k hk).2))

set_option maxHeartbeats 2000000 in
theorem nums07_any (p : Blocks) (x : Ins) (v : Value) (w : World) (h : SlR opdR w p v x.args) (hn : x.args.length ≤ 1000000) :
    Calls Tryd.prog 52 #[.agg #[.string x.op, v]] w fun e w' => ∃ v', e = .returned v' ∧ Own intR w' w.heap.size 3 NoB v' (numsOf x.args) ∧ Below w.heap.size w w' := by
  obtain ⟨s, l⟩ := x
  dsimp only at *
  obtain ⟨a, c, rfl, _⟩ := h.opd
  obtain ⟨W, hW⟩ : ∃ W : World, W = w.alloc (.cells #[.string s, .slice a l.length c] 39) := ⟨_, rfl⟩
  have hbW : Below w.heap.size w W := hW ▸ (Below.refl _ _).alloc (Nat.le_refl _) _
  have k1 : Blk W w.heap.size 39 #[.string s, .slice a l.length c] := hW ▸ Blk.new w _ _
  have HBW := Lib.hid hbW
  have HK := Lib.hid k1
  have HSL := Lib.hid (h.below hbW)
  have HN := Lib.hid hn
  clear h hbW k1 hn
  go_enter Tryd.func52, Tryd.ntmps52
  go_wp2
  rw [← hW]
  clear hW
  go_loopw [3, 4] (fun o i wr => ∃ k : Nat, k ≤ l.length ∧ i = .int .i64 k ∧ Own intR wr W.heap.size 3 NoB o (numsOf (l.take k)) ∧ Below W.heap.size W wr) (fun _ i _ => l.length - (intOf i).toNat)
  case atStart => exact ⟨0, Nat.zero_le _, rfl, Own.nil _ _ _ _ _, Below.refl _ _⟩
  case round =>
    obtain ⟨k, hk, rfl, ho, hb⟩ := hrel
    have HO := Lib.hid ho
    have HB := Lib.hid hb
    have hs1 : w.heap.size < wr.heap.size := Nat.lt_of_lt_of_le HK.out.lt hb.size
    obtain ⟨a0, a1, _, _⟩ := (HK.out.below hb HK.out.lt).two
    obtain ⟨ad, cd, hv, _, _, g1⟩ := (HSL.out.below hb).opd
    obtain ⟨rfl, _, rfl⟩ : a = ad ∧ l.length = l.length ∧ c = cd := by injection hv with h1 h2 h3; exact ⟨h1, h2, h3⟩
    obtain ⟨oa, oc, rfl⟩ := ho.form
    clear ho hb hv
    by_cases hlt : k < l.length
    · obtain ⟨b1, o1, rfl, _, d1, d2, d3⟩ := g1 k l[k] (List.getElem?_eq_getElem hlt)
      clear g1
      have HT := Lib.hid (List.take_append_getElem hlt)
      have hnu := fun wz => number_any l[k] wz
      have hb1 : b1 < wr.heap.size := World.block_lt_of_cell? _ _ d1
      generalize l[k] = y at *
      cases hy : hasNum y
      all_goals
        rw [hy] at hnu
        have HNU := Lib.hid hnu
        have HY := Lib.hid hy
        clear hnu hy
      · go_wp2_with (go_at_call 105; refine (HNU.out _).mono ?_; rintro e w2 ⟨rfl, hb⟩; have HB2 := Lib.hid hb; clear hb)
        go_roundw
        case rel => exact ⟨k + 1, by omega, by go_num, by rw [numsOf_no HT.out HY.out]; exact HO.out.stay HB2.out, HB.out.trans (HB2.out.mono HB.out.size)⟩
        case measure => simp [intOf]; omega
      · have hown0 : ∀ j, Value.ownBlock (.slice oa (numsOf (l.take k)).length oc) = some j → j < wr.heap.size := fun j hj => (HO.out.lt j hj).2
        have HOW := Lib.hid hown0
        have HLN : Hid ((numsOf (l.take k)).length ≤ 1000000) := Lib.hid (by have := numsOf_len (l.take k); have := HN.out; simp at *; omega)
        clear hown0
        go_wp2_with (first | (go_at_call 105; refine (HNU.out _).mono ?_; rintro e w2 ⟨rfl, hb⟩; have HB2 := Lib.hid hb; have e1 : w2.cell? ⟨w.heap.size, 1, none⟩ = some (.slice (some ⟨b1, o1, none⟩) l.length c) := (hb.cell (p := ⟨w.heap.size, 1, none⟩) hs1).trans a1; have e3 : w2.cell? ⟨b1, o1 + k * 3 + 2, none⟩ = some (.int .i64 y.n) := (hb.cell (p := ⟨b1, o1 + k * 3 + 2, none⟩) hb1).trans d3; have hlt2 : w.heap.size < w2.heap.size := Nat.lt_of_lt_of_le hs1 hb.size; have hlt3 : b1 < w2.heap.size := Nat.lt_of_lt_of_le hb1 hb.size; clear hb)
                           | (at_builtin; refine wpList_append_R _ rfl (.tmp 18) (.tmp 25) 68 rfl W.heap.size 3 8 elInt NoB (fun j => NoB j ∨ j = w2.heap.size) _ _ (numsOf (l.take k)) [y.n] rfl rfl ((HO.out.stay HB2.out).stay ((Below.refl _ _).alloc (Nat.le_refl _) _)) (slR_one (R := intR) (p := NoB) rfl _) (fun _ h => False.elim h) (fun j hj e => by rcases hj with hj | rfl; exact hj.elim; exact absurd (HOW.out _ e.symm) (Nat.not_lt.2 HB2.out.size)) (by have := HLN.out; simp; omega) (by have := HLN.out; simp; omega) (by have := HB.out.size; have := HB2.out.size; simp; omega) ?_; intro v' w' hap; have HAP := Lib.hid hap; obtain ⟨oa', oc', rfl⟩ := hap.1.form; clear hap))
        go_roundw
        case rel =>
          obtain ⟨ho, hg, _⟩ := HAP.out
          have ho2 : Own intR w' W.heap.size 3 NoB (.slice oa' (numsOf (l.take k) ++ [y.n]).length oc') (numsOf (l.take k) ++ [y.n]) := ho.flat NoB
          rw [List.length_append] at ho2
          refine ⟨k + 1, by omega, by go_num, by rw [numsOf_yes HT.out HY.out]; exact ho2, ((HB.out.trans (HB2.out.mono HB.out.size)).alloc (Nat.le_trans HB.out.size HB2.out.size) _).grown hg (by have := HB.out.size; have := HB2.out.size; simp; omega) (fun j hj => (HO.out.lt j hj).1)⟩
        case measure => simp [intOf]; omega
    · clear g1
      have hkl : k = l.length := by omega
      go_wp2
      go_ret
      subst hkl
      rw [List.take_length] at HO
      exact ⟨_, rfl, HO.out.base HBW.out.size, HBW.out.trans (HB.out.mono HBW.out.size)⟩
set_option maxHeartbeats 2000000 in
theorem nums_any (p : Blocks) (x : Ins) (v : Value) (w : World) (h : SlR opdR w p v x.args) (hn : x.args.length ≤ 1000000) :
    Calls Tryd.prog 51 #[.agg #[.string x.op, v]] w fun e w' => ∃ v', e = .returned v' ∧ Own intR w' w.heap.size 3 NoB v' (numsOf x.args) ∧ Below w.heap.size w w' := by
  obtain ⟨s, l⟩ := x
  dsimp only at *
  obtain ⟨a, c, rfl, _⟩ := h.opd
  obtain ⟨W, hW⟩ : ∃ W : World, W = w.alloc (.cells #[.string s, .slice a l.length c] 39) := ⟨_, rfl⟩
  have hbW : Below w.heap.size w W := hW ▸ (Below.refl _ _).alloc (Nat.le_refl _) _
  have k1 : Blk W w.heap.size 39 #[.string s, .slice a l.length c] := hW ▸ Blk.new w _ _
  have HBW := Lib.hid hbW
  have HK := Lib.hid k1
  have HSL := Lib.hid (h.below hbW)
  have HN := Lib.hid hn
  clear h hbW k1 hn
  go_enter Tryd.func51, Tryd.ntmps51
  go_wp2
  rw [← hW]
  clear hW
  go_loopw [3, 11] (fun o i wr => ∃ k : Nat, k ≤ l.length ∧ i = .int .i64 k ∧ Own intR wr W.heap.size 3 NoB o (numsOf (l.take k)) ∧ Below W.heap.size W wr) (fun _ i _ => l.length - (intOf i).toNat)
  case atStart => exact ⟨0, Nat.zero_le _, rfl, Own.nil _ _ _ _ _, Below.refl _ _⟩
  case round =>
    obtain ⟨k, hk, rfl, ho, hb⟩ := hrel
    have HO := Lib.hid ho
    have HB := Lib.hid hb
    have hs1 : w.heap.size < wr.heap.size := Nat.lt_of_lt_of_le HK.out.lt hb.size
    obtain ⟨a0, a1, _, _⟩ := (HK.out.below hb HK.out.lt).two
    obtain ⟨ad, cd, hv, _, _, g1⟩ := (HSL.out.below hb).opd
    obtain ⟨rfl, _, rfl⟩ : a = ad ∧ l.length = l.length ∧ c = cd := by injection hv with h1 h2 h3; exact ⟨h1, h2, h3⟩
    obtain ⟨oa, oc, rfl⟩ := ho.form
    clear ho hb hv
    by_cases hlt : k < l.length
    · obtain ⟨b1, o1, rfl, _, d1, d2, d3⟩ := g1 k l[k] (List.getElem?_eq_getElem hlt)
      clear g1
      have HT := Lib.hid (List.take_append_getElem hlt)
      have hnu := fun wz => marked_any l[k] wz
      generalize l[k] = y at *
      have HA : Hid (Below wr.heap.size wr (wr.alloc (.cells #[.int .i64 y.kind, .int .i64 y.reg, .int .i64 y.n] 47))) := (Below.refl _ _).alloc (Nat.le_refl _) _
      have HKA : Hid (Blk (wr.alloc (.cells #[.int .i64 y.kind, .int .i64 y.reg, .int .i64 y.n] 47)) wr.heap.size 47 #[.int .i64 y.kind, .int .i64 y.reg, .int .i64 y.n]) := Blk.new wr _ _
      cases hy : hasNum y
      all_goals
        rw [hy] at hnu
        have HNU := Lib.hid hnu
        have HY := Lib.hid hy
        clear hnu hy
      · go_wp2_with (go_at_call 101; refine (HNU.out _).mono ?_; rintro e w2 ⟨rfl, hb⟩; have HB2 := Lib.hid (HA.out.trans (hb.mono HA.out.size)); clear hb)
        go_roundw
        case rel => exact ⟨k + 1, by omega, by go_num, by rw [numsOf_no HT.out HY.out]; exact HO.out.stay HB2.out, HB.out.trans (HB2.out.mono HB.out.size)⟩
        case measure => simp [intOf]; omega
      · have hown0 : ∀ j, Value.ownBlock (.slice oa (numsOf (l.take k)).length oc) = some j → j < wr.heap.size := fun j hj => (HO.out.lt j hj).2
        have HOW := Lib.hid hown0
        have HLN : Hid ((numsOf (l.take k)).length ≤ 1000000) := Lib.hid (by have := numsOf_len (l.take k); have := HN.out; simp at *; omega)
        clear hown0
        go_wp2_with (first | (go_at_call 101; refine (HNU.out _).mono ?_; rintro e w2 ⟨rfl, hb⟩; have HB2 := Lib.hid (HA.out.trans (hb.mono HA.out.size)); have e3 : w2.cell? ⟨wr.heap.size, 2, none⟩ = some (.int .i64 y.n) := (hb.cell (p := ⟨wr.heap.size, 2, none⟩) HKA.out.lt).trans (HKA.out.cell 2); have hlt2 : wr.heap.size < w2.heap.size := Nat.lt_of_lt_of_le HKA.out.lt hb.size; clear hb)
                           | (at_builtin; refine wpList_append_R _ rfl (.tmp 21) (.tmp 24) 68 rfl W.heap.size 3 8 elInt NoB (fun j => NoB j ∨ j = w2.heap.size) _ _ (numsOf (l.take k)) [y.n] rfl rfl ((HO.out.stay HB2.out).stay ((Below.refl _ _).alloc (Nat.le_refl _) _)) (slR_one (R := intR) (p := NoB) rfl _) (fun _ h => False.elim h) (fun j hj e => by rcases hj with hj | rfl; exact hj.elim; exact absurd (HOW.out _ e.symm) (Nat.not_lt.2 HB2.out.size)) (by have := HLN.out; simp; omega) (by have := HLN.out; simp; omega) (by have := HB.out.size; have := HB2.out.size; simp; omega) ?_; intro v' w' hap; have HAP := Lib.hid hap; obtain ⟨oa', oc', rfl⟩ := hap.1.form; clear hap))
        go_roundw
        case rel =>
          obtain ⟨ho, hg, _⟩ := HAP.out
          have ho2 : Own intR w' W.heap.size 3 NoB (.slice oa' (numsOf (l.take k) ++ [y.n]).length oc') (numsOf (l.take k) ++ [y.n]) := ho.flat NoB
          rw [List.length_append] at ho2
          refine ⟨k + 1, by omega, by go_num, by rw [numsOf_yes HT.out HY.out]; exact ho2, ((HB.out.trans (HB2.out.mono HB.out.size)).alloc (Nat.le_trans HB.out.size HB2.out.size) _).grown hg (by have := HB.out.size; have := HB2.out.size; simp; omega) (fun j hj => (HO.out.lt j hj).1)⟩
        case measure => simp [intOf]; omega
    · clear g1
      have hkl : k = l.length := by omega
      go_wp2
      go_ret
      subst hkl
      rw [List.take_length] at HO
      exact ⟨_, rfl, HO.out.base HBW.out.size, HBW.out.trans (HB.out.mono HBW.out.size)⟩
end Go.Proofs.YtkkjoghfdmmpaaaDoor
