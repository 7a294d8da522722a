/-
  decode.First. Conditions: the library's table as its initialiser lays it; sizes.
-/
import Derived.Test.YtjmekllgnhkodaaGreatDoorD9
namespace Go.Proofs.YtjmekllgnhkodaaGreatDoor
open Go.RowKit Go.Shelf Go.Sort

set_option maxHeartbeats 4000000 in
set_option maxRecDepth 100000 in
theorem First_any (p : Blocks) (a : Option Addr) (c : Nat) (l : List UInt8) (w : World) (hT : Spc w) (hs : SlR byteR w p (.slice a l.length c) l) (h0 : 0 < l.length) (hl : l.length ≤ 1000000) :
    Calls Tryz.prog 17 #[.slice a l.length c] w (FirstP w (itF l) l) := by
  have HRD := Lib.hid (fun W (hb : RowKit.Below w.heap.size w W) => read_any p a c l W (hT.below hb) (hs.below hb) h0 hl)
  have HF0 := Lib.hid ((Fr.start w).new 29 itm0)
  clear hT hs h0 hl
  obtain ⟨W0, hW0⟩ : ∃ W : World, W = w.alloc (.cells itm0 29) := ⟨_, rfl⟩
  rw [← hW0] at HF0
  obtain ⟨R1, hR1⟩ : ∃ R, R = l.take (itF l).n := ⟨_, rfl⟩
  have HR1 := Lib.hid hR1
  clear hR1
  go_enter Tryz.func17, Tryz.ntmps17
  go_upto_region 1 with fail
  rw [← hW0]
  clear hW0
  go_upto_region 2 with (go_at_call 49; refine (HRD.out _ HF0.out.below).mono ?_; rintro e w1 ⟨⟨g, v, rfl, hi, _⟩, hb⟩; obtain ⟨ra, rc, va, vc, rfl, h1, h2⟩ := hi; rw [← HR1.out] at h1 ⊢; have H1 := Lib.hid h1; have H2 := Lib.hid h2; have HF1 := Lib.hid (HF0.out.next hb); clear h1 h2 hb; unfold itmV)
  have HF2 := Lib.hid ((HF1.out.new' 29 #[.int .i64 (itF l).k, .slice ra R1.length rc, .string ⟨(itF l).op.toArray⟩, .slice va (itF l).args.length vc, .bool (itF l).al] (b := w1.heap.size) rfl))
  have HZ : Hid (w.heap.size < w1.heap.size) := Lib.hid ((HF1.out.blk 0 rfl).lt)
  have HZ0 : Hid (w.heap.size < W0.heap.size) := Lib.hid ((HF0.out.blk 0 rfl).lt)
  have HA1 := Lib.hid (H1.out.alloc (.cells #[.int .i64 (itF l).k, .slice ra R1.length rc, .string ⟨(itF l).op.toArray⟩, .slice va (itF l).args.length vc, .bool (itF l).al] 29))
  have HA2 := Lib.hid (H2.out.alloc (.cells #[.int .i64 (itF l).k, .slice ra R1.length rc, .string ⟨(itF l).op.toArray⟩, .slice va (itF l).args.length vc, .bool (itF l).al] 29))
  generalize w1.alloc (.cells #[.int .i64 (itF l).k, .slice ra R1.length rc, .string ⟨(itF l).op.toArray⟩, .slice va (itF l).args.length vc, .bool (itF l).al] 29) = W2 at *
  generalize w1.heap.size = tb at *
  obtain ⟨⟨c0, c1, c2, c3, c4⟩, _⟩ := (HF2.out.blk 0 rfl).five
  obtain ⟨⟨m0, m1, m2, m3, m4⟩, g0, g1, g2, g3, g4⟩ := (HF2.out.blk 1 rfl).five
  go_wp2
  have F5 := Lib.hid (HF2.out.swap.set5 (Nat.le_refl _) (fun x hx => by rw [List.mem_singleton.1 hx]; have := HZ.out; show tb ≠ w.heap.size; omega) (.int .i64 (itF l).k) (.slice ra R1.length rc) (.string ⟨(itF l).op.toArray⟩) (.slice va (itF l).args.length vc) (.bool (itF l).al))
  refine bodyPost_ret (item_end rfl rfl (F5.out.blk 0 rfl) rfl) rfl ⟨⟨_, rfl, ?_⟩, F5.out.below⟩
  have HM : ItmR W2 W0.heap.size (itF l) l (.agg #[.int .i64 (itF l).k, .slice ra R1.length rc, .string ⟨(itF l).op.toArray⟩, .slice va (itF l).args.length vc, .bool (itF l).al]) := ⟨ra, rc, va, vc, by rw [← HR1.out]; rfl, by rw [← HR1.out]; exact HA1.out, HA2.out⟩
  exact (HM.off5 HZ0.out _ _ _ _ _).base (Nat.le_of_lt HZ0.out)
end Go.Proofs.YtjmekllgnhkodaaGreatDoor
