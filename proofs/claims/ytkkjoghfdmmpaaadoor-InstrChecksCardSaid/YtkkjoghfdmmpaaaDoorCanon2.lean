/-
  canon: the order of EX's operands. Conditions: the library's table of white space as its initialiser lays it.
-/
import Derived.Test.YtkkjoghfdmmpaaaDoorRev
import Derived.Deep.RegionHeld3
namespace Go.Proofs.YtkkjoghfdmmpaaaDoor
open Go.RowKit Go.Sort

theorem Wr.drewN {w0 w : World} {bw : Nat} {s : ByteArray} {v : Value} {l : List Opd} (h : Wr w0 w bw s v l) (n : Nat) : Wr w0 (w.drewN n) bw s v l := h.later ⟨rfl, rfl, rfl, Nat.le_refl _, fun _ _ => rfl⟩
theorem Wr.drew {w0 w : World} {bw : Nat} {s : ByteArray} {v : Value} {l : List Opd} (h : Wr w0 w bw s v l) : Wr w0 w.drew bw s v l := h.later ⟨rfl, rfl, rfl, Nat.le_refl _, fun _ _ => rfl⟩
theorem Wr.alloc {w0 w : World} {bw : Nat} {s : ByteArray} {v : Value} {l : List Opd} (h : Wr w0 w bw s v l) (o : Obj) : Wr w0 (w.alloc o) bw s v l := h.later ((Below.refl _ _).alloc (Nat.le_refl _) o)
theorem Wr.swap {w0 w : World} {bw b o c : Nat} {s : ByteArray} {x y : Opd} (h : Wr w0 w bw s (.slice (some ⟨b, o, none⟩) 2 c) [x, y]) (hq : w0.heap.size ≤ b ∧ b ≠ bw) : Wr w0 (setL w b (swaps o x y)) bw s (.slice (some ⟨b, o, none⟩) 2 c) [y, x] :=
  ⟨(setL_keep (Ne.symm hq.2) _ _).trans h.blk, swap_own h.own, h.old, setL_below hq.1 _ h.below, h.spc0⟩
def opHL : Opd := ⟨3, 2, 0⟩
def opDE : Opd := ⟨3, 1, 0⟩
def exch (s : ByteArray) (l : List Opd) : List Opd := if (s.toList == [69, 88]) && decide (l = [opHL, opDE]) then [opDE, opHL] else l

set_option maxHeartbeats 1000000 in
theorem exch_any (w0 w : World) (bw : Nat) (s : ByteArray) (v : Value) (l : List Opd) (h : Wr w0 w bw s v l) :
    Calls Tryd.prog 72 #[.pointer (some ⟨bw, 0, none⟩)] w fun e w' => e = .returned (.tuple #[]) ∧ ∃ v', Wr w0 w' bw s v' (exch s l) := by
  obtain ⟨a, c, rfl, hc, hm, g⟩ := h.own
  have HB : Below w.heap.size w ((w.alloc (.cells #[.int .i64 3, .int .i64 2, .int .i64 0] 47)).alloc (.cells #[.int .i64 3, .int .i64 1, .int .i64 0] 47)) := ((Below.refl _ _).alloc (Nat.le_refl _) _).alloc (by simp) _
  have H1 := Lib.hid (h.later HB)
  obtain ⟨e0, e1, f0, f1⟩ := H1.out.blk.two
  have hbw := h.blk.lt
  cases h1 : (s.toList == [69, 88])
  · have HV := Lib.hid (show exch s l = l by simp [exch, h1])
    clear g hc hm
    go_enter Tryd.func72, Tryd.ntmps72
    go_wp2
    go_quiet (fail)
    go_wp2
    go_end0
    exact ⟨rfl, _, by rw [HV.out]; exact H1.out.drewN nq⟩
  · clear g hc hm
    obtain ⟨W, hW⟩ : ∃ W : World, W = ((w.alloc (.cells #[.int .i64 3, .int .i64 2, .int .i64 0] 47)).alloc (.cells #[.int .i64 3, .int .i64 1, .int .i64 0] 47)) := ⟨_, rfl⟩
    have k1 : Blk W w.heap.size 47 #[.int .i64 3, .int .i64 2, .int .i64 0] := hW ▸ (Blk.new w _ _).alloc _
    have k2 : Blk W (w.heap.size + 1) 47 #[.int .i64 3, .int .i64 1, .int .i64 0] := by rw [hW]; exact (by simpa using Blk.new (w.alloc (.cells #[.int .i64 3, .int .i64 2, .int .i64 0] 47)) 47 #[.int .i64 3, .int .i64 1, .int .i64 0])
    obtain ⟨a0, a1, a2, _⟩ := k1.three
    obtain ⟨b0, b1, b2, _⟩ := k2.three
    rw [← hW] at H1 e0 e1 f0 f1
    have hbW : bw < W.heap.size := H1.out.blk.lt
    have HSA : Hid (SlR opdR ((W.alloc (.cells #[.int .i64 3, .int .i64 2, .int .i64 0, .int .i64 3, .int .i64 1, .int .i64 0] 47)).drew) (fun _ => True) (.slice a l.length c) l) := ((H1.out.own.slR.alloc _).drew).mono (fun _ _ => trivial)
    have HSB : Hid (SlR opdR ((W.alloc (.cells #[.int .i64 3, .int .i64 2, .int .i64 0, .int .i64 3, .int .i64 1, .int .i64 0] 47)).drew) (fun _ => True) (.slice (some ⟨W.heap.size, 0, none⟩) 2 2) [opHL, opDE]) :=
      (opdOwn_new (q := fun _ => True) [opHL, opDE] #[.int .i64 3, .int .i64 2, .int .i64 0, .int .i64 3, .int .i64 1, .int .i64 0] 47 W.heap.size 2 rfl rfl (by simp [opHL, opDE, Opd.cells]) trivial (by simp)).slR.drew
    have hw2 : (∃ wx : World, wx = W) := ⟨W, rfl⟩
    have hcall := EqualOpd_any _ _ _ _ _ _ _ HSA.out HSB.out
    cases h2 : decide (l = [opHL, opDE])
    all_goals
      simp only [h2] at hcall
      have HCALL := Lib.hid hcall
      clear hcall hw2
      have HW := Lib.hid hW
      go_enter Tryd.func72, Tryd.ntmps72
      go_wp2
      rw [← hW]
      have hs1 : w.heap.size < W.heap.size := k1.lt
      have hs2 : w.heap.size + 1 < W.heap.size := k2.lt
      have H2 := Lib.hid h2
      clear hW k1 k2 HB h2
      go_region_held3 (fun w' => w'.cell? ⟨bw, 0, none⟩ = some (.string s) ∧ w'.cell? ⟨bw, 1, none⟩ = some (.slice a l.length c) ∧ w'.cell? ⟨w.heap.size, 0, none⟩ = some (.int .i64 3) ∧ w'.cell? ⟨w.heap.size, 1, none⟩ = some (.int .i64 2) ∧ w'.cell? ⟨w.heap.size, 2, none⟩ = some (.int .i64 0) ∧ w'.cell? ⟨w.heap.size + 1, 0, none⟩ = some (.int .i64 3) ∧ w'.cell? ⟨w.heap.size + 1, 1, none⟩ = some (.int .i64 1) ∧ w'.cell? ⟨w.heap.size + 1, 2, none⟩ = some (.int .i64 0)) (go_keep)
        (first | (go_at_call 74; refine HCALL.out.mono ?_; rintro e w' ⟨rfl, nq, rfl⟩))
    · go_wp2
      go_end0
      have HV : exch s l = l := by simp [exch, of_decide_eq_false H2.out]
      exact ⟨rfl, _, by rw [HV]; exact (H1.out.alloc _).drewN _⟩
    · go_wp2_with fail
      have HX := Lib.hid ((H1.out.alloc (.cells #[.int .i64 3, .int .i64 2, .int .i64 0, .int .i64 3, .int .i64 1, .int .i64 0] 47)).drewN (1 + nq))
      clear HCALL HSA HSB
      generalize (W.alloc (.cells #[.int .i64 3, .int .i64 2, .int .i64 0, .int .i64 3, .int .i64 1, .int .i64 0] 47)).drewN (1 + nq) = W3 at *
      have HV : Hid (exch s l = [opDE, opHL]) := by have := of_decide_eq_true H2.out; exact Lib.hid (by rw [this]; simp [exch, h1])
      obtain rfl : l = [opHL, opDE] := of_decide_eq_true H2.out
      obtain ⟨a', c', e', _, _, g⟩ := HX.out.own
      injection e' with e1' _ e3'
      subst e1' e3'
      obtain ⟨b, o, rfl, hq, _, c0, c1, c2, fr⟩ := g 0 opHL rfl
      obtain ⟨b', o', eb, _, _, d0, d1, d2, _⟩ := g 1 opDE rfl
      injection eb with eb
      injection eb with eb1 eb2
      subst eb1 eb2
      rw [Nat.zero_mul, Nat.add_zero] at c0 c1 c2
      rw [Nat.one_mul] at d0 d1 d2
      refine (Reverse_two b o c opHL opDE W3 c0 c1 c2 d0 d1 d2 fr).mono ?_
      rintro e w' ⟨rfl, rfl⟩
      clear c0 c1 c2 d0 d1 d2 fr g
      go_wp2
      go_end0
      refine ⟨rfl, .slice (some ⟨b, o, none⟩) 2 c, ?_⟩
      rw [HV.out]
      exact (HX.out.swap hq).drew
end Go.Proofs.YtkkjoghfdmmpaaaDoor
