/-
  items.Decode; law13.alive. Conditions: the library's table as its initialiser lays it; sizes.
-/
import Derived.Test.YtnbmbcjnncbaiaaGreatDoorJ9
namespace Go.Proofs.YtnbmbcjnncbaiaaGreatDoor
open Go.RowKit Go.Shelf Go.Sort

theorem each_any (a : Option Addr) (n c : Nat) (w : World) : Calls Tryz.prog 60 #[.slice a n c] w fun e w' => e = .returned (.func (.func 91) #[] #[.pointer (some ⟨w.heap.size, 0, none⟩)]) ∧ w' = w.alloc (.cells #[.slice a n c] 22) := by
  have hmf : ∀ (fn : Fn) (first cap : Array Value) (w : World), (Instr.makeFunc fn first cap).run Tryz.prog w = .ok (.func fn first cap) w := fun _ _ _ _ => rfl
  go_enter Tryz.func60, Tryz.ntmps60
  go_wp2
  go_ret
  exact ⟨rfl, rfl⟩
set_option maxRecDepth 100000 in
theorem Collect_any (bb : Nat) (a : Option Addr) (c : Nat) (l : List UInt8) (p : Blocks) (w : World) (hB : Blk w bb 22 #[.slice a l.length c]) (hs : SlR byteR w p (.slice a l.length c) l) (hT : Spc w) (hl : l.length ≤ 1000000) :
    Calls Tryz.prog 63 #[.func (.func 91) #[] #[.pointer (some ⟨bb, 0, none⟩)]] w (ItsP w (itemsF l)) := by
  have HA := Lib.hid (AppendSeq_any bb a c l p w hB hs hT hl)
  go_enter Tryz.func63, Tryz.ntmps63
  go_wp2_with (go_at_call 93; refine (HA.out).mono ?_; rintro e w1 ⟨⟨v, rfl, ha⟩, hb⟩; have HA1 := Lib.hid ha; have HB1 := Lib.hid hb; clear ha hb)
  go_ret
  exact ⟨⟨_, rfl, HA1.out⟩, HB1.out⟩
set_option maxRecDepth 100000 in
theorem Dec_any (p : Blocks) (a : Option Addr) (c : Nat) (l : List UInt8) (w : World) (hT : Spc w) (hs : SlR byteR w p (.slice a l.length c) l) (hl : l.length ≤ 1000000) :
    Calls Tryz.prog 32 #[.slice a l.length c] w (ItsP w (itemsF l)) := by
  have hb0 : RowKit.Below w.heap.size w (w.alloc (.cells #[.slice a l.length c] 22)) := (Below.refl _ _).alloc (Nat.le_refl _) _
  have HC := Lib.hid (Collect_any w.heap.size a c l p _ (Blk.new w _ _) (hs.below hb0) (hT.below hb0) hl)
  have HB := Lib.hid hb0
  clear hT hs hb0
  go_enter Tryz.func32, Tryz.ntmps32
  go_wp2_with (first
    | (go_at_call 60; refine (each_any _ _ _ _).mono ?_; rintro e w1 ⟨rfl, hw1⟩; subst w1)
    | (go_at_call 63; refine (HC.out).mono ?_; rintro e w2 ⟨⟨v, rfl, ha⟩, hb⟩; have HA1 := Lib.hid ha; have HB1 := Lib.hid hb; clear ha hb))
  go_ret
  exact ⟨⟨_, rfl, HA1.out.base HB.out.size⟩, HB.out.trans (HB1.out.mono HB.out.size)⟩
abbrev cI : Array Value := #[.int .u8 0, .int .u8 221, .int .u8 0, .int .u8 237]
theorem litI (W : World) : SlR byteR (W.alloc (.cells cI 5)) (fun _ => True) (.slice (some ⟨W.heap.size, 0, none⟩) 4 4) [0, 221, 0, 237] := slR_lit W 5 (fun _ => True) [0, 221, 0, 237] cI 4 rfl rfl (by simp) (fun _ _ => trivial)
theorem ex13 : ((itemsF ([0, 221, 0, 237] : List UInt8)).map (fun x => x.k)) = [1, 2, 1, 4] ∧ ((itemsF ([0, 221, 0, 237] : List UInt8))[2]?.map (fun x => x.op)) = some [78, 79, 80] := by decide +kernel
theorem decI (W : World) (hT : Spc W) : Calls Tryz.prog 32 #[.slice (some ⟨W.heap.size, 0, none⟩) 4 4] (W.alloc (.cells cI 5)) fun e w' => (∃ b o c, e = .returned (.slice (some ⟨b, o, none⟩) 4 c) ∧ 4 ≤ c ∧ w'.cell? ⟨b, o, none⟩ = some (.int .i64 1) ∧ w'.cell? ⟨b, o + 5, none⟩ = some (.int .i64 2) ∧ w'.cell? ⟨b, o + 12, none⟩ = some (.string ⟨#[78, 79, 80]⟩) ∧ w'.cell? ⟨b, o + 15, none⟩ = some (.int .i64 4)) ∧ RowKit.Below W.heap.size W w' := by
  have hb : RowKit.Below W.heap.size W (W.alloc (.cells cI 5)) := (Below.refl _ _).alloc (Nat.le_refl _) _
  refine (Dec_any _ (some ⟨W.heap.size, 0, none⟩) 4 [0, 221, 0, 237] _ (hT.below hb) (litI W) (by decide)).mono ?_
  rintro e w' ⟨⟨v, rfl, ha⟩, hb2⟩
  refine ⟨?_, hb.trans (hb2.mono hb.size)⟩
  obtain ⟨h1, h2⟩ := ex13
  generalize itemsF ([0, 221, 0, 237] : List UInt8) = L at *
  have hlen : L.length = 4 := by have := congrArg List.length h1; simpa using this
  obtain ⟨x0, x1, x2, x3, rfl⟩ : ∃ x0 x1 x2 x3, L = [x0, x1, x2, x3] := by
    clear ha h1 h2
    match L, hlen with
    | [a, b, c, d], _ => exact ⟨a, b, c, d, rfl⟩
  simp only [List.map_cons, List.map_nil, List.cons.injEq, and_true] at h1
  obtain ⟨e0, e1, e2, e3⟩ := h1
  have h2 : some x2.op = some [78, 79, 80] := h2
  injection h2 with h2
  obtain ⟨a9, c9, rfl, hc, _, g⟩ := ha.slR.it
  obtain ⟨b, o, _, _, _, _, rfl, _, y0, _⟩ := g 0 x0 rfl
  obtain ⟨b1, o1, _, _, _, _, e, _, y1, _⟩ := g 1 x1 rfl
  injection e with e; injection e with e5 e6; subst e5 e6
  obtain ⟨b1, o1, _, _, _, _, e, _, _, _, y2, _⟩ := g 2 x2 rfl
  injection e with e; injection e with e5 e6; subst e5 e6
  obtain ⟨b1, o1, _, _, _, _, e, _, y3, _⟩ := g 3 x3 rfl
  injection e with e; injection e with e5 e6; subst e5 e6
  exact ⟨b, o, c9, rfl, hc, by rw [e0] at y0; exact y0, by rw [e1] at y1; exact y1, by rw [h2] at y2; exact y2, by rw [e3] at y3; exact y3⟩
set_option maxHeartbeats 4000000 in
set_option maxRecDepth 100000 in
theorem alive13_any (w : World) (hT : Spc w) : Calls Tryz.prog 24 #[] w fun e w' => e = .returned (.bool true) ∧ RowKit.Below w.heap.size w w' := by
  have HD := Lib.hid (decI w hT)
  clear hT
  go_enter Tryz.func24, Tryz.ntmps24
  go_wp2_with (go_at_call 32; refine (HD.out).mono ?_; rintro e w1 ⟨⟨b, o, c, rfl, hc, y0, y1, y2, y3⟩, hb⟩; have H1 := Lib.hid hb; clear hb)
  go_ret
  exact ⟨rfl, H1.out⟩
end Go.Proofs.YtnbmbcjnncbaiaaGreatDoor
