/-
  THE STATEMENT InstrChecks: the walk of the law. Conditions: none.
-/
import Derived.Test.YtkkjoghfdmmpaaaDoorAlive7
import Derived.Test.YtkkjoghfdmmpaaaDoorTwice3
namespace Go.Proofs.YtkkjoghfdmmpaaaDoor
open Go.RowKit

/-- What stands while a law works on an instruction that lies in block b0. -/
structure InsH (w0 : World) (p : Blocks) (x : Ins) (b0 : Nat) (va : Value) (w : World) : Prop where
  below : Below w0.heap.size w0 w
  spc : Spc w
  sx : SlR opdR w p va x.args
  blk : Blk w b0 39 #[.string x.op, va]
theorem InsH.next {w0 : World} {p : Blocks} {x : Ins} {b0 : Nat} {va : Value} {w w' : World} (h : InsH w0 p x b0 va w) (hb : Below w.heap.size w w') : InsH w0 p x b0 va w' :=
  ⟨h.below.trans (hb.mono h.below.size), h.spc.below hb, h.sx.below hb, h.blk.below hb h.blk.lt⟩
theorem InsH.start {p : Blocks} {x : Ins} {v : Value} {w : World} (h : SlR opdR w p v x.args) (hT : Spc w) : InsH w p x w.heap.size v (w.alloc (.cells #[.string x.op, v] 39)) :=
  ⟨(Below.refl _ _).alloc (Nat.le_refl _) _, hT.below ((Below.refl _ _).alloc (Nat.le_refl _) _), h.alloc _, Blk.new w _ _⟩
theorem below_alloc (w : World) (o : Obj) : Below w.heap.size w (w.alloc o) := (Below.refl _ _).alloc (Nat.le_refl _) _
theorem eqI_refl (a : Int) : (a == a) = true := by simp

set_option maxHeartbeats 4000000 in
theorem InstrChecks_any (p : Blocks) (x : Ins) (v : Value) (w : World) (h : SlR opdR w p v x.args) (hT : Spc w) (hz : x.op.size ≤ maxLen) :
    Calls Tryd.prog 11 #[.agg #[.string x.op, v]] w fun e w' => e = .returned (.bool true) ∧ Below w.heap.size w w' := by
  obtain ⟨a, c, rfl, _⟩ := h.opd
  have H0 := Lib.hid (InsH.start h hT)
  have HZ := Lib.hid hz
  clear h hT hz
  cases hs : short8 x
  · have hsh := short7_any p x _ _ H0.out.sx
    rw [hs] at hsh
    have HSH := Lib.hid hsh
    clear hsh hs
    obtain ⟨a0, a1, _, _⟩ := H0.out.blk.two
    generalize hW : w.alloc (.cells #[.string x.op, .slice a x.args.length c] 39) = W at *
    have HW := Lib.hid hW
    clear hW
    go_enter Tryd.func11, Tryd.ntmps11
    go_wp2_with fail
    rw [HW.out]
    refine HSH.out.mono ?_
    rintro e w1 ⟨rfl, hb⟩
    have H1 := Lib.hid (H0.out.next hb)
    clear hb
    go_wp2_with fail
    refine (alive7_any _ H1.out.spc).mono ?_
    rintro e w2 ⟨rfl, hb⟩
    have H2 := Lib.hid (H1.out.next hb)
    clear hb
    go_wp2
    go_ret
    exact ⟨rfl, H2.out.below⟩
  · have hn : x.args.length ≤ 20 := by
      have := hs
      simp [short8] at this
      exact this.2
    have HL := Lib.hid (show x.args.length ≤ 1000000 by omega)
    have hsh := short7_any p x _ _ H0.out.sx
    rw [hs] at hsh
    have HSH := Lib.hid hsh
    clear hsh hs hn
    obtain ⟨a0, a1, _, _⟩ := H0.out.blk.two
    generalize hW : w.alloc (.cells #[.string x.op, .slice a x.args.length c] 39) = W at *
    have HW := Lib.hid hW
    clear hW
    go_enter Tryd.func11, Tryd.ntmps11
    go_wp2_with fail
    rw [HW.out]
    refine HSH.out.mono ?_
    rintro e w1 ⟨rfl, hb⟩
    have H1 := Lib.hid (H0.out.next hb)
    have H1d := Lib.hid (H1.out.next (below_drew _))
    clear hb a0 a1
    obtain ⟨f0, f1, _, _⟩ := H1.out.blk.two
    go_upto_region 3 with fail
    go_region_held3 (fun w' => w'.cell? ⟨w.heap.size, 0, none⟩ = some (.string x.op) ∧ w'.cell? ⟨w.heap.size, 1, none⟩ = some (.slice a x.args.length c)) (go_keep)
      (first | (go_at_call 47; refine (alive7_any _ H1d.out.spc).mono ?_; rintro e w2 ⟨rfl, hb⟩; have H2 := Lib.hid (H1d.out.next hb); obtain ⟨f0, f1, _, _⟩ := H2.out.blk.two; clear hb)
             | (go_at_call 39; refine (check_any _ x _ _ H2.out.sx H2.out.spc HZ.out).mono ?_; rintro e w3 ⟨rfl, hb⟩; have H3 := Lib.hid (H2.out.next hb); obtain ⟨f0, f1, _, _⟩ := H3.out.blk.two; clear hb)
             | (go_at_call 38; refine (check07_any _ x _ _ H3.out.sx).mono ?_; rintro e w4 ⟨rfl, hb⟩; have H4 := Lib.hid (H3.out.next hb); obtain ⟨f0, f1, _, _⟩ := H4.out.blk.two; clear hb)
             | (go_at_call 48; refine (shape_any _ x _ _ H4.out.sx H4.out.spc HZ.out).mono ?_; rintro e w5 ⟨rfl, hb⟩; have H5 := Lib.hid (H4.out.next hb); obtain ⟨f0, f1, _, _⟩ := H5.out.blk.two; clear hb)
             | (go_at_call 49; refine (shape07_any _ x _ _ H5.out.sx).mono ?_; rintro e w6 ⟨rfl, hb⟩; have H6 := Lib.hid (H5.out.next hb); obtain ⟨f0, f1, _, _⟩ := H6.out.blk.two; clear hb)
             | (go_at_call 51; refine (nums_any _ x _ _ H6.out.sx HL.out).mono ?_; rintro e w7 ⟨v7, rfl, ho, hb⟩; have H7 := Lib.hid (H6.out.next hb); have HO7 := Lib.hid (ho.slR (q := fun _ => True) (fun _ _ => trivial) (fun _ _ => trivial)); obtain ⟨f0, f1, _, _⟩ := H7.out.blk.two; clear hb ho)
             | (go_at_call 52; refine (nums07_any _ x _ _ H7.out.sx HL.out).mono ?_; rintro e w8 ⟨v8, rfl, ho, hb⟩; have H8 := Lib.hid (H7.out.next hb); have HO8 := Lib.hid (ho.slR (q := fun _ => True) (fun _ _ => trivial) (fun _ _ => trivial)); have HO7b := Lib.hid (HO7.out.below hb); obtain ⟨f0, f1, _, _⟩ := H8.out.blk.two; clear hb ho)
             | (go_at_call 50; refine (EqualInt_any _ _ _ _ _ _ _ HO7b.out HO8.out).mono ?_; rw [decide_eq_true rfl]; rintro e w9 ⟨rfl, n9, rfl⟩))
    go_wp2
    go_ret
    exact ⟨rfl, below_dN H8.out.below n9⟩
end Go.Proofs.YtkkjoghfdmmpaaaDoor
