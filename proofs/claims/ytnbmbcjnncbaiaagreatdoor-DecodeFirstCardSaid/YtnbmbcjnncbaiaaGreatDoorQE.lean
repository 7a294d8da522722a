/-
  decode.Kind and Instr; read over no bytes. Conditions: the library's table as its initialiser lays it; sizes.
-/
import Derived.Test.YtnbmbcjnncbaiaaGreatDoorQD
namespace Go.Proofs.YtnbmbcjnncbaiaaGreatDoor
open Go.RowKit Go.Shelf Go.Sort

def kindB (k : Int) : ByteArray := if k = 1 then ⟨#[99, 111, 100, 101]⟩ else if k = 2 then ⟨#[115, 116, 114, 97, 121]⟩ else if k = 3 then ⟨#[104, 111, 108, 101]⟩ else if k = 4 then ⟨#[116, 114, 117, 110, 99, 97, 116, 101, 100]⟩ else ⟨#[]⟩
theorem Kind_any (k : Int) (w : World) : Calls Tryz.prog 28 #[.int .i64 k] w fun e w' => e = .returned (.string (kindB k)) ∧ w' = w := by
  unfold kindB
  by_cases h1 : k = 1
  · subst h1
    go_enter Tryz.func28, Tryz.ntmps28
    go_wp2
    go_ret
    exact ⟨rfl, rfl⟩
  by_cases h2 : k = 2
  · subst h2
    go_enter Tryz.func28, Tryz.ntmps28
    go_wp2
    go_ret
    exact ⟨rfl, rfl⟩
  by_cases h3 : k = 3
  · subst h3
    go_enter Tryz.func28, Tryz.ntmps28
    go_wp2
    go_ret
    exact ⟨rfl, rfl⟩
  by_cases h4 : k = 4
  · subst h4
    go_enter Tryz.func28, Tryz.ntmps28
    go_wp2
    go_ret
    exact ⟨rfl, rfl⟩
  · rw [if_neg h1, if_neg h2, if_neg h3, if_neg h4]
    go_enter Tryz.func28, Tryz.ntmps28
    go_wp2
    go_ret
    exact ⟨rfl, rfl⟩
end Go.Proofs.YtnbmbcjnncbaiaaGreatDoor
namespace Go.Proofs.YtnbmbcjnncbaiaaGreatDoor
open Go.RowKit Go.Shelf Go.Sort

set_option maxHeartbeats 4000000 in
set_option maxRecDepth 100000 in
theorem read_nil (a : Option Addr) (c : Nat) (w : World) :
    Calls Tryz.prog 52 #[.slice a 0 c] w fun e w' => (∃ g, e = .returned (.tuple #[.agg itm0, .pointer (some ⟨g, 0, none⟩)])) ∧ RowKit.Below w.heap.size w w' := by
  have hmf : ∀ (fn : Fn) (first cap : Array Value) (w : World), (Instr.makeFunc fn first cap).run Tryz.prog w = .ok (.func fn first cap) w := fun _ _ _ _ => rfl
  go_enter_defers Tryz.func52, Tryz.ntmps52
  go_upto_region 3 with fail
  have HF := Lib.hid (((((Fr.start w).new' 22 #[.slice a 0 c] (b := w.heap.size) rfl).new' 29 itm0 (b := w.heap.size + 1) (World.size_alloc _ _)).new' 73 #[.pointer (some ⟨w.heap.size + 1 + 1 + 1, 0, none⟩)] (b := w.heap.size + 1 + 1) (by rw [World.size_alloc, World.size_alloc])).alloc (.cells #[.slice a 0 c, .int .i64 0, .slice none 0 0, .int .i64 0, .int .u8 0, .string ⟨#[]⟩, .slice none 0 0, .string ⟨#[]⟩, .bool false, .int .i64 0, .int .i64 0] tDec))
  generalize (((w.alloc (.cells #[.slice a 0 c] 22)).alloc (.cells itm0 29)).alloc (.cells #[.pointer (some ⟨w.heap.size + 1 + 1 + 1, 0, none⟩)] 73)).alloc (.cells #[.slice a 0 c, .int .i64 0, .slice none 0 0, .int .i64 0, .int .u8 0, .string ⟨#[]⟩, .slice none 0 0, .string ⟨#[]⟩, .bool false, .int .i64 0, .int .i64 0] tDec) = W1 at *
  obtain ⟨⟨c0, c1, c2, c3, c4⟩, f0, f1, f2, f3, f4⟩ := (HF.out.blk 1 rfl).five
  have x0 := (HF.out.blk 0 rfl).one
  obtain ⟨x0, z0⟩ := x0
  go_region
  all_goals go_wp2
  all_goals have FA := (((HF.out.swap.set5 (by omega) (fun x hx => by rcases List.mem_cons.1 hx with e | hx; rw [e]; show w.heap.size + 1 + 1 ≠ w.heap.size + 1; omega; rw [List.mem_singleton.1 hx]; show w.heap.size ≠ w.heap.size + 1; omega) (.int .i64 0) (.slice none 0 0) (.string ⟨#[]⟩) (.slice none 0 0) (.bool false)).swap).set (by omega) (fun x hx => by rcases List.mem_cons.1 hx with e | hx; rw [e]; show w.heap.size + 1 ≠ w.heap.size + 1 + 1; omega; rw [List.mem_singleton.1 hx]; show w.heap.size ≠ w.heap.size + 1 + 1; omega) 0 (.pointer (some ⟨w.heap.size + 1 + 1 + 1, 0, none⟩))).drew
  all_goals have FB := ((HF.out.set (by omega) (fun x hx => by rcases List.mem_cons.1 hx with e | hx; rw [e]; show w.heap.size + 1 ≠ w.heap.size + 1 + 1; omega; rw [List.mem_singleton.1 hx]; show w.heap.size ≠ w.heap.size + 1 + 1; omega) 0 (.pointer (some ⟨w.heap.size + 1 + 1 + 1, 0, none⟩))).swap.set5 (by omega) (fun x hx => by rcases List.mem_cons.1 hx with e | hx; rw [e]; show w.heap.size + 1 + 1 ≠ w.heap.size + 1; omega; rw [List.mem_singleton.1 hx]; show w.heap.size ≠ w.heap.size + 1; omega) (.int .i64 0) (.slice none 0 0) (.string ⟨#[]⟩) (.slice none 0 0) (.bool false)).drew
  all_goals first
    | exact ⟨_, read_end rfl rfl (FA.blk 1 rfl) ((FA.blk 0 rfl).cell 0), ⟨_, rfl⟩, FA.below⟩
    | exact ⟨_, read_end rfl rfl (FB.blk 0 rfl) ((FB.blk 1 rfl).cell 0), ⟨_, rfl⟩, FB.below⟩
end Go.Proofs.YtnbmbcjnncbaiaaGreatDoor
namespace Go.Proofs.YtnbmbcjnncbaiaaGreatDoor
open Go.RowKit Go.Shelf Go.Sort

set_option maxHeartbeats 4000000 in
set_option maxRecDepth 100000 in
theorem First_nil (a : Option Addr) (c : Nat) (w : World) :
    Calls Tryz.prog 18 #[.slice a 0 c] w fun e w' => e = .returned (.agg itm0) ∧ RowKit.Below w.heap.size w w' := by
  have HRD := Lib.hid (fun W => read_nil a c W)
  have HF0 := Lib.hid ((Fr.start w).new 29 itm0)
  obtain ⟨W0, hW0⟩ : ∃ W : World, W = w.alloc (.cells itm0 29) := ⟨_, rfl⟩
  rw [← hW0] at HF0
  go_enter Tryz.func18, Tryz.ntmps18
  go_upto_region 1 with fail
  rw [← hW0]
  clear hW0
  go_upto_region 2 with (go_at_call 52; refine (HRD.out _).mono ?_; rintro e w1 ⟨⟨g, rfl⟩, hb⟩; have HF1 := Lib.hid (HF0.out.next hb); clear hb)
  have HF2 := Lib.hid ((HF1.out.new' 29 itm0 (b := w1.heap.size) rfl))
  have HZ : Hid (w.heap.size < w1.heap.size) := Lib.hid ((HF1.out.blk 0 rfl).lt)
  generalize w1.alloc (.cells itm0 29) = W2 at *
  generalize w1.heap.size = tb at *
  obtain ⟨⟨c0, c1, c2, c3, c4⟩, _⟩ := (HF2.out.blk 0 rfl).five
  obtain ⟨⟨m0, m1, m2, m3, m4⟩, g0, g1, g2, g3, g4⟩ := (HF2.out.blk 1 rfl).five
  go_wp2
  have F5 := Lib.hid (HF2.out.swap.set5 (Nat.le_refl _) (fun x hx => by rw [List.mem_singleton.1 hx]; have := HZ.out; show tb ≠ w.heap.size; omega) (.int .i64 0) (.slice none 0 0) (.string ⟨#[]⟩) (.slice none 0 0) (.bool false))
  exact bodyPost_ret (item_end rfl rfl (F5.out.blk 0 rfl) rfl) rfl ⟨rfl, F5.out.below⟩
end Go.Proofs.YtnbmbcjnncbaiaaGreatDoor
namespace Go.Proofs.YtnbmbcjnncbaiaaGreatDoor
open Go.RowKit Go.Shelf Go.Sort

set_option maxHeartbeats 4000000 in
set_option maxRecDepth 100000 in
theorem InstrD_any (p : Blocks) (a : Option Addr) (c : Nat) (l : List UInt8) (w : World) (hT : Spc w) (hs : SlR byteR w p (.slice a l.length c) l) (h0 : 0 < l.length) (hl : l.length ≤ 1000000) (hk : (itF l).k = 1) (hn : (l.take (itF l).n).length = l.length) :
    Calls Tryz.prog 19 #[.slice a l.length c] w fun e w' => (∃ va vc, e = .returned (.tuple #[.agg #[.string ⟨(itF l).op.toArray⟩, .slice va (itF l).args.length vc], .bool true]) ∧ SlR opdR w' (fun k => w.heap.size ≤ k) (.slice va (itF l).args.length vc) (itF l).args) ∧ RowKit.Below w.heap.size w w' := by
  have HFI := Lib.hid (fun W (hb : RowKit.Below w.heap.size w W) => First_any p a c l W (hT.below hb) (hs.below hb) h0 hl)
  have HK := Lib.hid hk
  have HN := Lib.hid hn
  have HF0 := Lib.hid ((Fr.start w).new 27 #[.string ⟨#[]⟩, .slice none 0 0])
  clear hT hs h0 hl hk hn
  generalize itF l = IT at *
  obtain ⟨W0, hW0⟩ : ∃ W : World, W = w.alloc (.cells #[.string ⟨#[]⟩, .slice none 0 0] 27) := ⟨_, rfl⟩
  rw [← hW0] at HF0
  go_enter Tryz.func19, Tryz.ntmps19
  go_upto_region 1 with fail
  rw [← hW0]
  clear hW0
  go_upto_region 2 with (go_at_call 18; refine (HFI.out _ HF0.out.below).mono ?_; rintro e w1 ⟨⟨v, rfl, hi⟩, hb⟩; obtain ⟨ra, rc, va, vc, hv, _, h2⟩ := hi; unfold itmV at hv; rw [HK.out, HN.out] at hv; subst hv; have H2 := Lib.hid h2; have HF1 := Lib.hid (HF0.out.next hb); clear h2 hb)
  have HF2 := Lib.hid ((HF1.out.new' 29 #[.int .i64 1, .slice ra l.length rc, .string ⟨IT.op.toArray⟩, .slice va IT.args.length vc, .bool IT.al] (b := w1.heap.size) rfl))
  have HZ : Hid (w.heap.size < w1.heap.size) := Lib.hid ((HF1.out.blk 0 rfl).lt)
  have HZ0 : Hid (w.heap.size < W0.heap.size) := Lib.hid ((HF0.out.blk 0 rfl).lt)
  have HA2 := Lib.hid (H2.out.alloc (.cells #[.int .i64 1, .slice ra l.length rc, .string ⟨IT.op.toArray⟩, .slice va IT.args.length vc, .bool IT.al] 29))
  generalize w1.alloc (.cells #[.int .i64 1, .slice ra l.length rc, .string ⟨IT.op.toArray⟩, .slice va IT.args.length vc, .bool IT.al] 29) = W2 at *
  generalize w1.heap.size = tb at *
  obtain ⟨⟨c0, c1, c2, c3, c4⟩, _⟩ := (HF2.out.blk 0 rfl).five
  obtain ⟨m0, m1, g0, g1⟩ := (HF2.out.blk 1 rfl).two
  go_wp2
  have F2 := Lib.hid ((HF2.out.swap.set (Nat.le_refl _) (fun x hx => by rw [List.mem_singleton.1 hx]; have := HZ.out; show tb ≠ w.heap.size; omega) 0 (.string ⟨IT.op.toArray⟩)).set (Nat.le_refl _) (fun x hx => by rw [List.mem_singleton.1 hx]; have := HZ.out; show tb ≠ w.heap.size; omega) 1 (.slice va IT.args.length vc))
  refine bodyPost_ret (insE_end rfl rfl (F2.out.blk 0 rfl)) rfl ⟨⟨va, vc, by first | rfl | (simp; done), ?_⟩, F2.out.below⟩
  exact ((HA2.out.keep (Keep.setCell (a := ⟨w.heap.size, 0, none⟩) (fun k hk => by have hk : W0.heap.size ≤ k := hk; have := HZ0.out; show k ≠ w.heap.size; omega) _)).keep (Keep.setCell (a := ⟨w.heap.size, 1, none⟩) (fun k hk => by have hk : W0.heap.size ≤ k := hk; have := HZ0.out; show k ≠ w.heap.size; omega) _)).mono (fun k hk => by have hk : W0.heap.size ≤ k := hk; have := HZ0.out; omega)
end Go.Proofs.YtnbmbcjnncbaiaaGreatDoor
