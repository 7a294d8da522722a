/-
  decode.Instr where the bytes are no instruction. Conditions: the library's table as its initialiser lays it; sizes.
-/
import Derived.Test.YtnbmbcjnncbaiaaGreatDoorQE
namespace Go.Proofs.YtnbmbcjnncbaiaaGreatDoor
open Go.RowKit Go.Shelf Go.Sort

set_option maxHeartbeats 4000000 in
set_option maxRecDepth 100000 in
theorem InstrD_nil (a : Option Addr) (c : Nat) (w : World) :
    Calls Tryz.prog 19 #[.slice a 0 c] w fun e w' => e = .returned (.tuple #[.agg #[.string ⟨#[]⟩, .slice none 0 0], .bool false]) ∧ RowKit.Below w.heap.size w w' := by
  have HFI := Lib.hid (fun W => First_nil a c W)
  have HF0 := Lib.hid ((Fr.start w).new 27 #[.string ⟨#[]⟩, .slice none 0 0])
  obtain ⟨W0, hW0⟩ : ∃ W : World, W = w.alloc (.cells #[.string ⟨#[]⟩, .slice none 0 0] 27) := ⟨_, rfl⟩
  rw [← hW0] at HF0
  go_enter Tryz.func19, Tryz.ntmps19
  go_upto_region 1 with fail
  rw [← hW0]
  clear hW0
  go_upto_region 2 with (go_at_call 18; refine (HFI.out _).mono ?_; rintro e w1 ⟨rfl, hb⟩; have HF1 := Lib.hid (HF0.out.next hb); clear hb)
  have HF2 := Lib.hid ((HF1.out.new' 29 itm0 (b := w1.heap.size) rfl))
  have HZ : Hid (w.heap.size < w1.heap.size) := Lib.hid ((HF1.out.blk 0 rfl).lt)
  generalize w1.alloc (.cells itm0 29) = W2 at *
  generalize w1.heap.size = tb at *
  obtain ⟨⟨c0, c1, c2, c3, c4⟩, _⟩ := (HF2.out.blk 0 rfl).five
  obtain ⟨m0, m1, g0, g1⟩ := (HF2.out.blk 1 rfl).two
  go_wp2
  have F2 := Lib.hid ((HF2.out.swap.set (Nat.le_refl _) (fun x hx => by rw [List.mem_singleton.1 hx]; have := HZ.out; show tb ≠ w.heap.size; omega) 0 (.string ⟨#[]⟩)).set (Nat.le_refl _) (fun x hx => by rw [List.mem_singleton.1 hx]; have := HZ.out; show tb ≠ w.heap.size; omega) 1 (.slice none 0 0))
  exact bodyPost_ret (insE_end rfl rfl (F2.out.blk 0 rfl)) rfl ⟨rfl, F2.out.below⟩
set_option maxHeartbeats 4000000 in
set_option maxRecDepth 100000 in
theorem InstrD_no (p : Blocks) (a : Option Addr) (c : Nat) (l : List UInt8) (w : World) (hT : Spc w) (hs : SlR byteR w p (.slice a l.length c) l) (h0 : 0 < l.length) (hl : l.length ≤ 1000000) (hno : ¬ ((itF l).k = 1 ∧ (l.take (itF l).n).length = l.length)) :
    Calls Tryz.prog 19 #[.slice a l.length c] w fun e w' => e = .returned (.tuple #[.agg #[.string ⟨#[]⟩, .slice none 0 0], .bool false]) ∧ RowKit.Below w.heap.size w w' := by
  have HFI := Lib.hid (fun W (hb : RowKit.Below w.heap.size w W) => First_any p a c l W (hT.below hb) (hs.below hb) h0 hl)
  have HNO := Lib.hid hno
  have HF0 := Lib.hid ((Fr.start w).new 27 #[.string ⟨#[]⟩, .slice none 0 0])
  obtain ⟨R1, hR1⟩ : ∃ R, R = l.take (itF l).n := ⟨_, rfl⟩
  rw [← hR1] at HNO
  have HR1 := Lib.hid hR1
  clear hT hs h0 hl hno hR1
  generalize itF l = IT at *
  obtain ⟨W0, hW0⟩ : ∃ W : World, W = w.alloc (.cells #[.string ⟨#[]⟩, .slice none 0 0] 27) := ⟨_, rfl⟩
  rw [← hW0] at HF0
  by_cases hk : IT.k = 1
  · have hn : ¬ (R1.length : Int) = (l.length : Int) := fun h => HNO.out ⟨hk, by omega⟩
    have HK := Lib.hid hk
    clear hk
    go_enter Tryz.func19, Tryz.ntmps19
    go_upto_region 1 with fail
    rw [← hW0]
    clear hW0
    go_upto_region 2 with (go_at_call 18; refine (HFI.out _ HF0.out.below).mono ?_; rintro e w1 ⟨⟨v, rfl, hi⟩, hb⟩; obtain ⟨ra, rc, va, vc, hv, _, h2⟩ := hi; unfold itmV at hv; rw [← HR1.out, HK.out] at hv; subst hv; have HF1 := Lib.hid (HF0.out.next hb); clear h2 hb)
    have HF2 := Lib.hid ((HF1.out.new' 29 #[.int .i64 1, .slice ra R1.length rc, .string ⟨IT.op.toArray⟩, .slice va IT.args.length vc, .bool IT.al] (b := w1.heap.size) rfl))
    have HZ : Hid (w.heap.size < w1.heap.size) := Lib.hid ((HF1.out.blk 0 rfl).lt)
    generalize w1.alloc (.cells #[.int .i64 1, .slice ra R1.length rc, .string ⟨IT.op.toArray⟩, .slice va IT.args.length vc, .bool IT.al] 29) = W2 at *
    generalize w1.heap.size = tb at *
    obtain ⟨⟨c0, c1, c2, c3, c4⟩, _⟩ := (HF2.out.blk 0 rfl).five
    obtain ⟨m0, m1, g0, g1⟩ := (HF2.out.blk 1 rfl).two
    go_wp2
    have F2 := Lib.hid ((HF2.out.swap.set (Nat.le_refl _) (fun x hx => by rw [List.mem_singleton.1 hx]; have := HZ.out; show tb ≠ w.heap.size; omega) 0 (.string ⟨#[]⟩)).set (Nat.le_refl _) (fun x hx => by rw [List.mem_singleton.1 hx]; have := HZ.out; show tb ≠ w.heap.size; omega) 1 (.slice none 0 0))
    exact bodyPost_ret (insE_end rfl rfl (F2.out.blk 0 rfl)) rfl ⟨rfl, F2.out.below⟩
  · go_enter Tryz.func19, Tryz.ntmps19
    go_upto_region 1 with fail
    rw [← hW0]
    clear hW0
    go_upto_region 2 with (go_at_call 18; refine (HFI.out _ HF0.out.below).mono ?_; rintro e w1 ⟨⟨v, rfl, hi⟩, hb⟩; obtain ⟨ra, rc, va, vc, hv, _, h2⟩ := hi; unfold itmV at hv; rw [← HR1.out] at hv; subst hv; have HF1 := Lib.hid (HF0.out.next hb); clear h2 hb)
    have HF2 := Lib.hid ((HF1.out.new' 29 #[.int .i64 IT.k, .slice ra R1.length rc, .string ⟨IT.op.toArray⟩, .slice va IT.args.length vc, .bool IT.al] (b := w1.heap.size) rfl))
    have HZ : Hid (w.heap.size < w1.heap.size) := Lib.hid ((HF1.out.blk 0 rfl).lt)
    generalize w1.alloc (.cells #[.int .i64 IT.k, .slice ra R1.length rc, .string ⟨IT.op.toArray⟩, .slice va IT.args.length vc, .bool IT.al] 29) = W2 at *
    generalize w1.heap.size = tb at *
    obtain ⟨⟨c0, c1, c2, c3, c4⟩, _⟩ := (HF2.out.blk 0 rfl).five
    obtain ⟨m0, m1, g0, g1⟩ := (HF2.out.blk 1 rfl).two
    go_wp2
    have F2 := Lib.hid ((HF2.out.swap.set (Nat.le_refl _) (fun x hx => by rw [List.mem_singleton.1 hx]; have := HZ.out; show tb ≠ w.heap.size; omega) 0 (.string ⟨#[]⟩)).set (Nat.le_refl _) (fun x hx => by rw [List.mem_singleton.1 hx]; have := HZ.out; show tb ≠ w.heap.size; omega) 1 (.slice none 0 0))
    exact bodyPost_ret (insE_end rfl rfl (F2.out.blk 0 rfl)) rfl ⟨rfl, F2.out.below⟩
end Go.Proofs.YtnbmbcjnncbaiaaGreatDoor
