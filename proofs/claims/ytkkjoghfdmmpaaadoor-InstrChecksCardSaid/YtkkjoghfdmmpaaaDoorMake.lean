/-
  slices.Clone at operands; instr.Make. Conditions: at most a million operands.
-/
import Derived.Test.YtkkjoghfdmmpaaaDoorUpper
import Derived.Test.YtkkjoghfdmmpaaaDoorAppend
import Derived.Test.YtkkjoghfdmmpaaaDoorIns
namespace Go.Proofs.YtkkjoghfdmmpaaaDoor
open Go.RowKit

theorem elOpd : ElT Tryd.prog 37 47 opdR.size 24 := ElT.mk' (z := .agg #[.int .i64 0, .int .i64 0, .int .i64 0]) Tryd.underlying37 (by kernel_rfl) rfl (by decide)
abbrev NoB : Blocks := fun _ => False
theorem Own.flat {α : Type} {n : Nat} {enc : α → List Value} {h : ∀ x, (enc x).length = n} {h1 : ∀ x, ∀ u ∈ enc x, u.oneCell' = true} {w : World} {B : Nat} {e : TypeId} {p : Blocks} (q : Blocks) {v : Value} {xs : List α} (ho : Own (Rep.flat n enc h h1) w B e p v xs) : Own (Rep.flat n enc h h1) w B e q v xs := by
  obtain ⟨cs, hr, he⟩ := ho
  refine ⟨cs, hr, ?_⟩
  clear hr
  induction xs generalizing cs with
  | nil => exact he
  | cons x xs ih => obtain ⟨c1, c2, e1, h2, h3⟩ := he; exact ⟨c1, c2, e1, h2, ih _ h3⟩
theorem Own.opd {w : World} {B : Nat} {e : TypeId} {p : Blocks} (q : Blocks) {v : Value} {xs : List Opd} (ho : Own opdR w B e p v xs) : Own opdR w B e q v xs := Own.flat q ho
theorem Own.made {α : Type} {R : Rep α} (w : World) (e : TypeId) (p : Blocks) : Own R (w.alloc (.cells #[] e)) w.heap.size e p (.slice (some ⟨w.heap.size, 0, none⟩) 0 0) ([] : List α) :=
  ⟨[], World.ownsRow_made w #[] 0 (Nat.le_refl _) (by simp [maxLen]) (by simp), rfl⟩

set_option maxHeartbeats 400000 in
theorem CloneOpd_any (p : Blocks) (v : Value) (l : List Opd) (w : World) (h : SlR opdR w p v l) (hn : l.length ≤ 1000000) :
    Calls Tryd.prog 70 #[v] w fun e w' => ∃ v', e = .returned v' ∧ Own opdR w' w.heap.size 47 NoB v' l ∧ Below w.heap.size w w' := by
  have HN := Lib.hid hn
  clear hn
  obtain ⟨a, c, rfl, hc, hm, g⟩ := h.opd
  have HH := Lib.hid h
  clear h
  have heq := fun wx a n c => Lib.run_eql_slice_nil (P := Tryd.prog) wx 37 47 a n c 0 0 Tryd.underlying37
  cases a with
  | none =>
    obtain rfl : l = [] := by
      cases l with
      | nil => rfl
      | cons y ys => obtain ⟨b, o, ea, _⟩ := g 0 y rfl; cases ea
    clear g
    go_enter Tryd.func70, Tryd.ntmps70
    go_wp2
    go_ret
    exact ⟨_, rfl, Own.nil _ _ _ _ _, Below.refl _ _⟩
  | some ad =>
    clear g
    go_enter Tryd.func70, Tryd.ntmps70
    have HB : Below w.heap.size w (w.alloc (.cells #[] 47)) := (Below.refl _ _).alloc (Nat.le_refl _) _
    have HX : Hid (SlR opdR (w.alloc (.cells #[] 47)) (fun k => p k ∧ k < w.heap.size) (.slice (some ad) l.length c) l) := HH.out.old.below HB
    have HO : Hid (Own opdR (w.alloc (.cells #[] 47)) w.heap.size 47 NoB (.slice (some ⟨w.heap.size, 0, none⟩) 0 0) []) := Own.made w _ _
    have C2 : Hid (∀ k, p k ∧ k < w.heap.size → some k ≠ Value.ownBlock (.slice (some ⟨w.heap.size, 0, none⟩) 0 0)) := fun k hk e => by simp [Value.ownBlock] at e; omega
    have C3 : Hid (([] : List Opd).length + l.length ≤ 1000000) := by have := HN.out; simp; omega
    go_wp2_with (at_builtin; refine wpList_append_R _ rfl (.tmp 5) (.tmp 6) 37 rfl w.heap.size 47 24 elOpd NoB _ _ _ [] l rfl rfl HO.out HX.out (fun _ h => False.elim h) C2.out (by have := C3.out; omega) (by have := C3.out; omega) HB.size ?_; intro v' w' hap; have HAP := Lib.hid hap; clear hap)
    obtain ⟨ho, hg, _⟩ := HAP.out
    go_ret
    exact ⟨_, rfl, ho.opd NoB, HB.grown hg HB.size (fun k hk => by cases hk; exact Nat.le_refl _)⟩

set_option maxHeartbeats 400000 in
theorem Make_any (p : Blocks) (s : ByteArray) (v : Value) (l : List Opd) (w : World) (h : SlR opdR w p v l) (hn : l.length ≤ 1000000) (hs : s.size ≤ 9223372036854775807) :
    Calls Tryd.prog 53 #[.string s, v] w fun e w' => ∃ v', e = .returned (.agg #[.string (upper s), v']) ∧ Own opdR w' w.heap.size 47 NoB v' l ∧ Below w.heap.size w w' := by
  have HH := Lib.hid h
  have HN := Lib.hid hn
  clear h hn
  go_enter Tryd.func53, Tryd.ntmps53
  go_wp2_with fail
  refine (Upper_any _ _ hs).mono ?_
  rintro e w1 ⟨rfl, hb1⟩
  have HB1 := Lib.hid hb1
  clear hb1
  go_wp2_with fail
  have hl : SlR opdR w1 p v l := (HH.out.alloc _).below HB1.out
  refine (CloneOpd_any p _ _ _ hl HN.out).mono ?_
  rintro e w2 ⟨v', rfl, ho, hb2⟩
  have hk : Blk w2 w.heap.size 39 #[.string ⟨#[]⟩, .slice none 0 0] := ((Blk.new w _ _).below HB1.out (by simp)).below hb2 (by have := HB1.out.size; simp at this; omega)
  obtain ⟨c0, c1, f0, f1⟩ := hk.two
  obtain ⟨a', cap', rfl⟩ := ho.form
  have HK := Lib.hid ((hk.set 0 (.string (upper s))).set 1 (.slice a' l.length cap'))
  have HO := Lib.hid ho
  have HB2 := Lib.hid hb2
  clear ho hb2 hk hl
  go_wp2
  refine bodyPost_ret (results_cell_row rfl _ _ w.heap.size 39 #[.string (upper s), .slice a' l.length cap'] (0, 0) _ rfl HK.out Tryd.underlying39 rfl (by kernel_rfl)) rfl ⟨_, rfl, ?_, ?_⟩
  · have hsz := HB1.out.size
    simp at hsz
    refine (HO.out.keep fun k hk => ?_).base (by omega)
    have hk' : w1.heap.size ≤ k := hk.elim (fun h => False.elim h) (fun h => (HO.out.lt k h).1)
    rw [Below.heap_setCell _ _ _ _ (by simp; omega), Below.heap_setCell _ _ _ _ (by simp; omega)]
  · exact (((Below.refl _ w).alloc (Nat.le_refl _) _).trans ((HB1.out.mono (by simp)).trans (HB2.out.mono (by have := HB1.out.size; simp at this; omega)))).setCell (Nat.le_refl _) _ |>.setCell (Nat.le_refl _) _
end Go.Proofs.YtkkjoghfdmmpaaaDoor
