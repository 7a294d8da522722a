/-
  canon.Of. Conditions: the library's table of white space as its initialiser lays it; at most a million operands.
-/
import Derived.Test.YtkkjoghfdmmpaaaDoorCanon4
namespace Go.Proofs.YtkkjoghfdmmpaaaDoor
open Go.RowKit

def fits64 (n : Int) : Prop := -9223372036854775808 ≤ n ∧ n ≤ 9223372036854775807
def canonArgs (s : ByteArray) (l : List Opd) : List Opd := let l2 := exch s (accum s l); l2.map (numb (sizeOfW (width ⟨s, l2⟩)))
def canonOf (x : Ins) : Ins := ⟨x.op, canonArgs x.op x.args⟩
theorem accum_fits {s : ByteArray} {l : List Opd} (h : ∀ x ∈ l, fits64 x.n) : ∀ x ∈ accum s l, fits64 x.n := by
  intro x hx
  unfold accum at hx
  have h0 : fits64 (0 : Int) := ⟨by decide, by decide⟩
  split at hx
  · split at hx
    · rcases List.mem_cons.1 hx with rfl | hx
      · exact h0
      · exact h x hx
    · exact h x hx
  · split at hx
    · exact h x (by simp at hx ⊢; exact .inr hx)
    · exact h x hx
  · exact h x hx
theorem exch_fits {s : ByteArray} {l : List Opd} (h : ∀ x ∈ l, fits64 x.n) : ∀ x ∈ exch s l, fits64 x.n := by
  intro x hx
  unfold exch at hx
  have h0 : fits64 (0 : Int) := ⟨by decide, by decide⟩
  split at hx
  · simp at hx
    rcases hx with rfl | rfl <;> exact h0
  · exact h x hx

set_option maxHeartbeats 2000000 in
theorem Of_any (p : Blocks) (x : Ins) (v : Value) (w : World) (h : SlR opdR w p v x.args) (hT : Spc w) (hn : x.args.length ≤ 1000000) (hf : ∀ y ∈ x.args, fits64 y.n) :
    Calls Tryd.prog 26 #[.agg #[.string x.op, v]] w fun e w' => ∃ v', e = .returned (.agg #[.string x.op, v']) ∧ OpdOwn w' (fun b => w.heap.size ≤ b) v' (canonOf x).args ∧ Below w.heap.size w w' := by
  obtain ⟨s, l⟩ := x
  dsimp only at *
  obtain ⟨a, c, rfl, _⟩ := h.opd
  have H := Lib.hid h
  have HT := Lib.hid hT
  have HN := Lib.hid hn
  have HF := Lib.hid hf
  clear h hT hn hf
  obtain ⟨W, hW⟩ : ∃ W : World, W = (w.alloc (.cells #[.string s, .slice a l.length c] 39)).alloc (.cells #[.string ⟨#[]⟩, .slice none 0 0] 39) := ⟨_, rfl⟩
  have hbW : Below w.heap.size w W := hW ▸ ((Below.refl _ _).alloc (Nat.le_refl _) _).alloc (by simp) _
  have k1 : Blk W w.heap.size 39 #[.string s, .slice a l.length c] := hW ▸ (Blk.new w _ _).alloc _
  have k2 : Blk W (w.heap.size + 1) 39 #[.string ⟨#[]⟩, .slice none 0 0] := by rw [hW]; exact (by simpa using Blk.new (w.alloc (.cells #[.string s, .slice a l.length c] 39)) 39 #[.string ⟨#[]⟩, .slice none 0 0])
  have HBW := Lib.hid hbW
  have K2 := Lib.hid k2
  obtain ⟨a0, a1, _, _⟩ := k1.two
  have hs1 : w.heap.size < W.heap.size := k1.lt
  have hs2 : w.heap.size + 1 < W.heap.size := k2.lt
  clear hbW k1 k2
  go_enter Tryd.func26, Tryd.ntmps26
  go_wp2
  rw [← hW]
  have HW := Lib.hid hW
  clear hW
  have HCL := Lib.hid (CloneOpd_any p _ _ W.drew (H.out.below HBW.out).drew HN.out)
  go_region_held3 (fun w' => w'.cell? ⟨w.heap.size, 0, none⟩ = some (.string s) ∧ w'.cell? ⟨w.heap.size, 1, none⟩ = some (.slice a l.length c)) (go_keep)
    (first | (go_at_call 70; refine HCL.out.mono ?_; rintro e w1 ⟨v', rfl, ho, hb⟩; have HO := Lib.hid ho; have HB := Lib.hid hb; obtain ⟨a', cap', rfl⟩ := ho.form; have a0' : w1.cell? ⟨w.heap.size, 0, none⟩ = some (.string s) := (hb.cell (p := ⟨w.heap.size, 0, none⟩) hs1).trans a0; have a1' : w1.cell? ⟨w.heap.size, 1, none⟩ = some (.slice a l.length c) := (hb.cell (p := ⟨w.heap.size, 1, none⟩) hs1).trans a1; clear ho hb))
  have HWR : Hid (Wr W (w1.alloc (.cells #[.string s, .slice a' l.length cap'] 98)) w1.heap.size s (.slice a' l.length cap') l) :=
    ⟨Blk.new _ _ _, (HO.out.opdOwn (q := fun b => W.heap.size ≤ b ∧ b ≠ w1.heap.size) (fun k hk => ⟨(HO.out.lt k hk).1, by have := (HO.out.lt k hk).2; omega⟩)).below ((Below.refl _ _).alloc (Nat.le_refl _) _), HB.out.size, (Below.trans (b := w1) ⟨HB.out.os, HB.out.tape, HB.out.output, HB.out.size, HB.out.block⟩ ((Below.refl _ _).mono HB.out.size |>.alloc HB.out.size _)), HT.out.below HBW.out⟩
  clear a0 a1 a0' a1'
  generalize w1.alloc (.cells #[.string s, .slice a' l.length cap'] 98) = W2 at *
  have i0 : ∀ w, (Instr.index 100 (.agg #[.func (.func 71) #[] #[], .func (.func 72) #[] #[], .func (.func 73) #[] #[]]) (.int .i64 0)).run Tryd.prog w = .ok (.func (.func 71) #[] #[]) w := fun _ => by kernel_rfl
  have i1 : ∀ w, (Instr.index 100 (.agg #[.func (.func 71) #[] #[], .func (.func 72) #[] #[], .func (.func 73) #[] #[]]) (.int .i64 1)).run Tryd.prog w = .ok (.func (.func 72) #[] #[]) w := fun _ => by kernel_rfl
  have i2 : ∀ w, (Instr.index 100 (.agg #[.func (.func 71) #[] #[], .func (.func 72) #[] #[], .func (.func 73) #[] #[]]) (.int .i64 2)).run Tryd.prog w = .ok (.func (.func 73) #[] #[]) w := fun _ => by kernel_rfl
  go_wp2
  refine wp_loop_rounds 4 ?_
  rw [rounds_succ]
  go_wp2_with (go_at_call 71; refine (acc_any _ _ _ _ _ _ HWR.out).mono ?_; rintro e w3 ⟨rfl, v3, h3⟩; have H3 := Lib.hid h3; clear h3)
  rw [rounds_succ]
  go_wp2_with (go_at_call 72; refine (exch_any _ _ _ _ _ _ H3.out).mono ?_; rintro e w4 ⟨rfl, v4, h4⟩; have H4 := Lib.hid h4; clear h4)
  rw [rounds_succ]
  go_wp2_with (go_at_call 73; refine (numbers_any _ _ _ _ _ _ H4.out (exch_fits (accum_fits HF.out))).mono ?_; rintro e w5 ⟨rfl, h5⟩; have H5 := Lib.hid h5; clear h5)
  rw [rounds_succ]
  obtain ⟨a5, c5, rfl, _⟩ := H5.out.own
  obtain ⟨e0, e1, _, _⟩ := H5.out.blk.two
  have HK5 := Lib.hid (K2.out.below H5.out.below K2.out.lt)
  obtain ⟨r0, r1, q0, q1⟩ := HK5.out.two
  have HRES := Lib.hid ((HK5.out.set 0 (.string s)).set 1 (.slice a5 (exch s (accum s l)).length c5))
  go_wp2
  refine bodyPost_ret (results_cell_row rfl _ _ (w.heap.size + 1) 39 #[.string s, .slice a5 (exch s (accum s l)).length c5] (0, 0) _ rfl HRES.out Tryd.underlying39 rfl (by kernel_rfl)) rfl ⟨.slice a5 (exch s (accum s l)).length c5, rfl, ?_, ?_⟩
  · have ho := H5.out.own
    rw [List.length_map] at ho
    have ho2 : OpdOwn w5 (fun b => W.heap.size ≤ b) (.slice a5 (exch s (accum s l)).length c5) (canonArgs s l) := ho.mono (fun _ hk => hk.1)
    refine (ho2.keep fun k hk => ?_).mono (fun k (hk : W.heap.size ≤ k) => by omega)
    have hk' : W.heap.size ≤ k := hk
    rw [Below.heap_setCell _ _ _ _ (by simp; omega), Below.heap_setCell _ _ _ _ (by simp; omega)]
  · exact ((HBW.out.trans (H5.out.below.mono HBW.out.size)).setCell (p := ⟨w.heap.size + 1, 0, none⟩) (by simp) _).setCell (p := ⟨w.heap.size + 1, 1, none⟩) (by simp) _
end Go.Proofs.YtkkjoghfdmmpaaaDoor
