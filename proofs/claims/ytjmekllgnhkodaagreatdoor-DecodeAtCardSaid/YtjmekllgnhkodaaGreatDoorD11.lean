/-
  decode.Need at the chapter's example; law12.alive. Conditions: the library's table as its initialiser lays it.
-/
import Derived.Test.YtjmekllgnhkodaaGreatDoorD10
namespace Go.Proofs.YtjmekllgnhkodaaGreatDoor
open Go.RowKit Go.Shelf Go.Sort

theorem ex1 : (itF [221, 0]).k = 2 ∧ (([221, 0] : List UInt8).take (itF [221, 0]).n).length = 1 := by decide +kernel
theorem ex2 : (itF [221, 203, 5]).k = 4 ∧ (([221, 203, 5] : List UInt8).take (itF [221, 203, 5]).n).length = 3 ∧ (prefF (pgB [221, 203, 5])).length = 2 ∧ pos (pgB [221, 203, 5]) = 3 := by decide +kernel
set_option maxHeartbeats 4000000 in
set_option maxRecDepth 100000 in
theorem NeedA_any (p : Blocks) (a : Option Addr) (c : Nat) (w : World) (hT : Spc w) (hs : SlR byteR w p (.slice a 3 c) [221, 203, 5]) :
    Calls Tryz.prog 15 #[.slice a 3 c] w fun e w' => e = .returned (.int .i64 4) ∧ RowKit.Below w.heap.size w w' := by
  have HRD := Lib.hid (read_any p a c [221, 203, 5] w hT hs (by decide) (by decide))
  clear hT hs
  go_enter Tryz.func15, Tryz.ntmps15
  go_upto_region 2 with (go_at_call 49; refine (HRD.out).mono ?_; rintro e w1 ⟨⟨g, v, rfl, hi, hn⟩, hb⟩; obtain ⟨ra, rc, va, vc, hv, _, _⟩ := hi; unfold itmV at hv; rw [ex2.2.1, ex2.1] at hv; subst hv; obtain ⟨xe, xa, qa, xn, xc, qc, k, d, n, hblk, hcase⟩ := hn ex2.1; rw [ex2.2.2.1] at hblk; have HB := Lib.hid hb; have HK := Lib.hid hblk; have HC : Hid (xe.iop = []) := Lib.hid (hcase.elim (fun h => h.1) (fun h => by have := h.1; rw [ex2.2.2.2] at this; exact absurd this (by decide))); clear hb hblk hcase hn)

  generalize itF [221, 203, 5] = IT at *
  have HL2 := Lib.hid (HB.out.alloc HB.out.size (.cells #[.int .i64 4, .slice ra 3 rc, .string ⟨IT.op.toArray⟩, .slice va IT.args.length vc, .bool IT.al] 29))
  have HI := Lib.hid (Blk.new w1 29 #[.int .i64 4, .slice ra 3 rc, .string ⟨IT.op.toArray⟩, .slice va IT.args.length vc, .bool IT.al])
  have HK2 := Lib.hid (HK.out.alloc (.cells #[.int .i64 4, .slice ra 3 rc, .string ⟨IT.op.toArray⟩, .slice va IT.args.length vc, .bool IT.al] 29))
  generalize w1.alloc (.cells #[.int .i64 4, .slice ra 3 rc, .string ⟨IT.op.toArray⟩, .slice va IT.args.length vc, .bool IT.al] 29) = W at *
  generalize w1.heap.size = tb at *
  obtain ⟨⟨c0, c1, c2, c3, c4⟩, _⟩ := HI.out.five
  have g5 : W.cell? ⟨g, 5, none⟩ = some (.string ⟨#[]⟩) := by
    have h : W.cell? ⟨g, 5, none⟩ = some (.string ⟨xe.iop.toArray⟩) := HK2.out.cell 5
    rw [HC.out] at h; exact h
  have g2 : W.cell? ⟨g, 2, none⟩ = some (.slice qa 2 qc) := HK2.out.cell 2
  go_wp2
  go_ret
  exact ⟨rfl, HL2.out⟩
end Go.Proofs.YtjmekllgnhkodaaGreatDoor
