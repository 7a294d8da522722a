/-
  decode.Need at the chapter's example; law12.alive. law12.alive. decode.Instr. Conditions: the library's table as its initialiser lays it; sizes.
-/
import Derived.Test.YtmpmciccgempeaaGreatDoorBC4
import Derived.Test.YtmpmciccgempeaaGreatDoorBU1
import Derived.Test.YtmpmciccgempeaaGreatDoorBH1
namespace Go.Proofs.YtmpmciccgempeaaGreatDoor
open Go.RowKit Go.Shelf Go.Sort
theorem ex1 : (itF [221, 0]).k = 2 ∧ (([221, 0] : List UInt8).take (itF [221, 0]).n).length = 1 := by decide +kernel
theorem ex2 : (itF [221, 203, 5]).k = 4 ∧ (([221, 203, 5] : List UInt8).take (itF [221, 203, 5]).n).length = 3 ∧ (aR (pgB [221, 203, 5])).length = 2 ∧ pos (pgB [221, 203, 5]) = 3 := by decide +kernel
set_option maxHeartbeats 4000000 in
set_option maxRecDepth 100000 in
theorem LB (p : aB) (a : Option Addr) (c : Nat) (w : World) (hT : Spc w) (hs : SlR aI w p (.slice a 3 c) [221, 203, 5]) :
    Calls Tryz.prog 70 #[.slice a 3 c] w fun e w' => e = .returned (.int .i64 4) ∧ RowKit.Below w.heap.size w w' := by
  have HRD := aA (BH p a c [221, 203, 5] w hT hs (by decide) (by decide))
  clear hT hs
  go_enter Tryz.func70, Tryz.ntmps70
  go_upto_region 2 with (go_at_call 71; refine (HRD.out).mono ?_; rintro e w1 ⟨⟨g, v, rfl, hi, hn⟩, hb⟩; obtain ⟨ra, rc, va, vc, hv, _, _⟩ := hi; unfold qU at hv; rw [ex2.2.1, ex2.1] at hv; subst hv; obtain ⟨xe, xa, qa, xn, xc, qc, k, d, n, hblk, hcase⟩ := hn ex2.1; rw [ex2.2.2.1] at hblk; have HB := aA hb; have HK := aA hblk; have HC : Hid (xe.iop = []) := aA (hcase.elim (fun h => h.1) (fun h => by have := h.1; rw [ex2.2.2.2] at this; exact absurd this (by decide))); clear hb hblk hcase hn)
  generalize itF [221, 203, 5] = IT at *
  have HL2 := aA (HB.out.alloc HB.out.size (.cells #[.int .i64 4, .slice ra 3 rc, .string ⟨IT.op.toArray⟩, .slice va IT.args.length vc, .bool IT.al] 34))
  have HI := aA (Blk.new w1 34 #[.int .i64 4, .slice ra 3 rc, .string ⟨IT.op.toArray⟩, .slice va IT.args.length vc, .bool IT.al])
  have HK2 := aA (HK.out.alloc (.cells #[.int .i64 4, .slice ra 3 rc, .string ⟨IT.op.toArray⟩, .slice va IT.args.length vc, .bool IT.al] 34))
  generalize w1.alloc (.cells #[.int .i64 4, .slice ra 3 rc, .string ⟨IT.op.toArray⟩, .slice va IT.args.length vc, .bool IT.al] 34) = W at *
  generalize w1.heap.size = tb at *
  obtain ⟨⟨c0, c1, c2, c3, c4⟩, _⟩ := HI.out.five
  have g5 : W.cell? ⟨g, 5, none⟩ = some (.string ⟨#[]⟩) := by
    have h : W.cell? ⟨g, 5, none⟩ = some (.string ⟨xe.iop.toArray⟩) := HK2.out.cell 5
    rw [HC.out] at h; exact h
  have g2 : W.cell? ⟨g, 2, none⟩ = some (.slice qa 2 qc) := HK2.out.cell 2
  go_wp2
  go_ret
  exact ⟨rfl, HL2.out⟩
abbrev cA : Array Value := #[.int .u8 221, .int .u8 0]
abbrev cB : Array Value := #[.int .u8 221, .int .u8 203, .int .u8 5]
theorem litA (W : World) : SlR aI (W.alloc (.cells cA 5)) (fun _ => True) (.slice (some ⟨W.heap.size, 0, none⟩) 2 2) [221, 0] := fS W 5 (fun _ => True) [221, 0] cA 2 rfl rfl (by simp) (fun _ _ => trivial)
theorem litB (W : World) : SlR aI (W.alloc (.cells cB 5)) (fun _ => True) (.slice (some ⟨W.heap.size, 0, none⟩) 3 3) [221, 203, 5] := fS W 5 (fun _ => True) [221, 203, 5] cB 3 rfl rfl (by simp) (fun _ _ => trivial)
theorem firstA (W : World) (hT : Spc W) : Calls Tryz.prog 22 #[.slice (some ⟨W.heap.size, 0, none⟩) 2 2] (W.alloc (.cells cA 5)) fun e w' => (∃ ra rc s va vn vc f, e = .returned (.agg #[.int .i64 2, .slice ra 1 rc, .string s, .slice va vn vc, .bool f])) ∧ RowKit.Below W.heap.size W w' := by
  have hb : RowKit.Below W.heap.size W (W.alloc (.cells cA 5)) := (Below.refl _ _).alloc (Nat.le_refl _) _
  refine (kE _ _ _ [221, 0] _ (hT.below hb) (litA W) (by decide) (by decide)).mono ?_
  rintro e w' ⟨⟨v, rfl, ra, rc, va, vc, hv, _, _⟩, hb2⟩
  unfold qU at hv
  rw [ex1.2, ex1.1] at hv
  exact ⟨⟨_, _, _, _, _, _, _, by rw [hv]⟩, hb.trans (hb2.mono hb.size)⟩
theorem firstB (W : World) (hT : Spc W) : Calls Tryz.prog 22 #[.slice (some ⟨W.heap.size, 0, none⟩) 3 3] (W.alloc (.cells cB 5)) fun e w' => (∃ ra rc s va vn vc f, e = .returned (.agg #[.int .i64 4, .slice ra 3 rc, .string s, .slice va vn vc, .bool f])) ∧ RowKit.Below W.heap.size W w' := by
  have hb : RowKit.Below W.heap.size W (W.alloc (.cells cB 5)) := (Below.refl _ _).alloc (Nat.le_refl _) _
  refine (kE _ _ _ [221, 203, 5] _ (hT.below hb) (litB W) (by decide) (by decide)).mono ?_
  rintro e w' ⟨⟨v, rfl, ra, rc, va, vc, hv, _, _⟩, hb2⟩
  unfold qU at hv
  rw [ex2.2.1, ex2.1] at hv
  exact ⟨⟨_, _, _, _, _, _, _, by rw [hv]⟩, hb.trans (hb2.mono hb.size)⟩
theorem needB (W : World) (hT : Spc W) : Calls Tryz.prog 70 #[.slice (some ⟨W.heap.size, 0, none⟩) 3 3] (W.alloc (.cells cB 5)) fun e w' => e = .returned (.int .i64 4) ∧ RowKit.Below W.heap.size W w' := by
  have hb : RowKit.Below W.heap.size W (W.alloc (.cells cB 5)) := (Below.refl _ _).alloc (Nat.le_refl _) _
  exact (LB _ _ _ _ (hT.below hb) (litB W)).mono (fun e w' h => ⟨h.1, hb.trans (h.2.mono hb.size)⟩)
set_option maxHeartbeats 4000000 in
set_option maxRecDepth 100000 in
theorem alive12_any (w : World) (hT : Spc w) : Calls Tryz.prog 21 #[] w fun e w' => e = .returned (.bool true) ∧ RowKit.Below w.heap.size w w' := by
  have HT := aA (fun W (hb : RowKit.Below w.heap.size w W) => hT.below hb)
  have HFA := aA (fun W h => firstA W h)
  have HFB := aA (fun W h => firstB W h)
  have HNB := aA (fun W h => needB W h)
  have H0 : Hid (RowKit.Below w.heap.size w w) := aA (Below.refl _ _)
  clear hT
  go_enter Tryz.func21, Tryz.ntmps21
  go_upto_region 2 with (first
    | (go_at_call 22; (with_reducible refine (HFA.out _ (HT.out _ H0.out)).mono ?_); rintro e w1 ⟨⟨ra, rc, s1, va, vn, vc, f1, rfl⟩, hb⟩; have H1 := aA hb; clear hb)
    | (go_at_call 22; (with_reducible refine (HFB.out _ (HT.out _ H1.out)).mono ?_); rintro e w2 ⟨⟨rb, rd, s2, vb, vm, vd, f2, rfl⟩, hb⟩; have H2 := aA (H1.out.trans (hb.mono H1.out.size)); clear hb))
  have HF := aA ((((Fr.start w).next H2.out).new' 34 #[.int .i64 2, .slice ra 1 rc, .string s1, .slice va vn vc, .bool f1] (b := w2.heap.size) rfl).new' 34 #[.int .i64 4, .slice rb 3 rd, .string s2, .slice vb vm vd, .bool f2] (b := w2.heap.size + 1) (World.size_alloc _ _))
  generalize ((w2.alloc (.cells #[.int .i64 2, .slice ra 1 rc, .string s1, .slice va vn vc, .bool f1] 34)).alloc (.cells #[.int .i64 4, .slice rb 3 rd, .string s2, .slice vb vm vd, .bool f2] 34)) = W3 at *
  generalize w2.heap.size = tb at *
  obtain ⟨⟨c0, c1, c2, c3, c4⟩, _⟩ := (HF.out.blk 1 rfl).five
  obtain ⟨⟨d0, d1, d2, d3, d4⟩, _⟩ := (HF.out.blk 0 rfl).five
  go_wp2_with (go_at_call 70; (with_reducible refine (HNB.out _ (HT.out _ HF.out.below)).mono ?_); rintro e w4 ⟨rfl, hb⟩; have H4 := aA (HF.out.below.trans (hb.mono HF.out.below.size)); clear hb)
  go_ret
  exact ⟨rfl, H4.out⟩
set_option maxHeartbeats 4000000 in
set_option maxRecDepth 100000 in
theorem InstrD_any (p : aB) (a : Option Addr) (c : Nat) (l : List UInt8) (w : World) (hT : Spc w) (hs : SlR aI w p (.slice a l.length c) l) (h0 : 0 < l.length) (hl : l.length ≤ 1000000) (hk : (itF l).k = 1) (hn : (l.take (itF l).n).length = l.length) :
    Calls Tryz.prog 26 #[.slice a l.length c] w fun e w' => (∃ va vc, e = .returned (.tuple #[.agg #[.string ⟨(itF l).op.toArray⟩, .slice va (itF l).args.length vc], .bool true]) ∧ SlR aM w' (fun k => w.heap.size ≤ k) (.slice va (itF l).args.length vc) (itF l).args) ∧ RowKit.Below w.heap.size w w' := by
  have HFI := aA (fun W (hb : RowKit.Below w.heap.size w W) => kE p a c l W (hT.below hb) (hs.below hb) h0 hl)
  have HK := aA hk
  have HN := aA hn
  have HF0 := aA ((Fr.start w).new 24 #[.string ⟨#[]⟩, .slice none 0 0])
  clear hT hs h0 hl hk hn
  generalize itF l = IT at *
  obtain ⟨W0, hW0⟩ : ∃ W : World, W = w.alloc (.cells #[.string ⟨#[]⟩, .slice none 0 0] 24) := ⟨_, rfl⟩
  rw [← hW0] at HF0
  go_enter Tryz.func26, Tryz.ntmps26
  go_upto_region 1 with fail
  rw [← hW0]
  clear hW0
  go_upto_region 2 with (go_at_call 22; refine (HFI.out _ HF0.out.below).mono ?_; rintro e w1 ⟨⟨v, rfl, hi⟩, hb⟩; obtain ⟨ra, rc, va, vc, hv, _, h2⟩ := hi; unfold qU at hv; rw [HK.out, HN.out] at hv; subst hv; have H2 := aA h2; have HF1 := aA (HF0.out.next hb); clear h2 hb)
  have HF2 := aA ((HF1.out.new' 34 #[.int .i64 1, .slice ra l.length rc, .string ⟨IT.op.toArray⟩, .slice va IT.args.length vc, .bool IT.al] (b := w1.heap.size) rfl))
  have HZ : Hid (w.heap.size < w1.heap.size) := aA ((HF1.out.blk 0 rfl).lt)
  have HZ0 : Hid (w.heap.size < W0.heap.size) := aA ((HF0.out.blk 0 rfl).lt)
  have HA2 := aA (H2.out.alloc (.cells #[.int .i64 1, .slice ra l.length rc, .string ⟨IT.op.toArray⟩, .slice va IT.args.length vc, .bool IT.al] 34))
  generalize w1.alloc (.cells #[.int .i64 1, .slice ra l.length rc, .string ⟨IT.op.toArray⟩, .slice va IT.args.length vc, .bool IT.al] 34) = W2 at *
  generalize w1.heap.size = tb at *
  obtain ⟨⟨c0, c1, c2, c3, c4⟩, _⟩ := (HF2.out.blk 0 rfl).five
  obtain ⟨m0, m1, g0, g1⟩ := (HF2.out.blk 1 rfl).two
  go_wp2
  have F2 := aA ((HF2.out.swap.set (Nat.le_refl _) (fun x hx => by rw [List.mem_singleton.1 hx]; have := HZ.out; show tb ≠ w.heap.size; omega) 0 (.string ⟨IT.op.toArray⟩)).set (Nat.le_refl _) (fun x hx => by rw [List.mem_singleton.1 hx]; have := HZ.out; show tb ≠ w.heap.size; omega) 1 (.slice va IT.args.length vc))
  refine bodyPost_ret (aN rfl rfl (F2.out.blk 0 rfl)) rfl ⟨⟨va, vc, by first | rfl | (simp; done), ?_⟩, F2.out.below⟩
  exact ((HA2.out.keep (aS.setCell (a := ⟨w.heap.size, 0, none⟩) (fun k hk => by have hk : W0.heap.size ≤ k := hk; have := HZ0.out; show k ≠ w.heap.size; omega) _)).keep (aS.setCell (a := ⟨w.heap.size, 1, none⟩) (fun k hk => by have hk : W0.heap.size ≤ k := hk; have := HZ0.out; show k ≠ w.heap.size; omega) _)).mono (fun k hk => by have hk : W0.heap.size ≤ k := hk; have := HZ0.out; omega)
end Go.Proofs.YtmpmciccgempeaaGreatDoor
