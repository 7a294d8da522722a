/-
  The chapter's example; decode.At. Conditions: the library's table as its initialiser lays it; sizes.
-/
import Derived.Test.YtnbmbcjnncbaiaaGreatDoorQC
namespace Go.Proofs.YtnbmbcjnncbaiaaGreatDoor
open Go.RowKit Go.Shelf Go.Sort

theorem ex1 : (itF [221, 0]).k = 2 ∧ (([221, 0] : List UInt8).take (itF [221, 0]).n).length = 1 := by decide +kernel
theorem ex2 : (itF [221, 203, 5]).k = 4 ∧ (([221, 203, 5] : List UInt8).take (itF [221, 203, 5]).n).length = 3 ∧ (prefF (pgB [221, 203, 5])).length = 2 ∧ pos (pgB [221, 203, 5]) = 3 := by decide +kernel
set_option maxHeartbeats 4000000 in
set_option maxRecDepth 100000 in
theorem NeedA_any (p : Blocks) (a : Option Addr) (c : Nat) (w : World) (hT : Spc w) (hs : SlR byteR w p (.slice a 3 c) [221, 203, 5]) :
    Calls Tryz.prog 16 #[.slice a 3 c] w fun e w' => e = .returned (.int .i64 4) ∧ RowKit.Below w.heap.size w w' := by
  have HRD := Lib.hid (read_any p a c [221, 203, 5] w hT hs (by decide) (by decide))
  clear hT hs
  go_enter Tryz.func16, Tryz.ntmps16
  go_upto_region 2 with (go_at_call 52; refine (HRD.out).mono ?_; rintro e w1 ⟨⟨g, v, rfl, hi, hn⟩, hb⟩; obtain ⟨ra, rc, va, vc, hv, _, _⟩ := hi; unfold itmV at hv; rw [ex2.2.1, ex2.1] at hv; subst hv; obtain ⟨xe, xa, qa, xn, xc, qc, k, d, n, hblk, hcase⟩ := hn ex2.1; rw [ex2.2.2.1] at hblk; have HB := Lib.hid hb; have HK := Lib.hid hblk; have HC : Hid (xe.iop = []) := Lib.hid (hcase.elim (fun h => h.1) (fun h => by have := h.1; rw [ex2.2.2.2] at this; exact absurd this (by decide))); clear hb hblk hcase hn)

  generalize itF [221, 203, 5] = IT at *
  have HL2 := Lib.hid (HB.out.alloc HB.out.size (.cells #[.int .i64 4, .slice ra 3 rc, .string ⟨IT.op.toArray⟩, .slice va IT.args.length vc, .bool IT.al] 29))
  have HI := Lib.hid (Blk.new w1 29 #[.int .i64 4, .slice ra 3 rc, .string ⟨IT.op.toArray⟩, .slice va IT.args.length vc, .bool IT.al])
  have HK2 := Lib.hid (HK.out.alloc (.cells #[.int .i64 4, .slice ra 3 rc, .string ⟨IT.op.toArray⟩, .slice va IT.args.length vc, .bool IT.al] 29))
  generalize w1.alloc (.cells #[.int .i64 4, .slice ra 3 rc, .string ⟨IT.op.toArray⟩, .slice va IT.args.length vc, .bool IT.al] 29) = W at *
  generalize w1.heap.size = tb at *
  obtain ⟨⟨c0, c1, c2, c3, c4⟩, _⟩ := HI.out.five
  have g5 : W.cell? ⟨g, 5, none⟩ = some (.string ⟨#[]⟩) := by
    have h : W.cell? ⟨g, 5, none⟩ = some (.string ⟨xe.iop.toArray⟩) := HK2.out.cell 5
    rw [HC.out] at h; exact h
  have g2 : W.cell? ⟨g, 2, none⟩ = some (.slice qa 2 qc) := HK2.out.cell 2
  go_wp2
  go_ret
  exact ⟨rfl, HL2.out⟩
end Go.Proofs.YtnbmbcjnncbaiaaGreatDoor
namespace Go.Proofs.YtnbmbcjnncbaiaaGreatDoor
open Go.RowKit Go.Shelf Go.Sort

abbrev cA : Array Value := #[.int .u8 221, .int .u8 0]
abbrev cB : Array Value := #[.int .u8 221, .int .u8 203, .int .u8 5]
theorem litA (W : World) : SlR byteR (W.alloc (.cells cA 5)) (fun _ => True) (.slice (some ⟨W.heap.size, 0, none⟩) 2 2) [221, 0] := slR_lit W 5 (fun _ => True) [221, 0] cA 2 rfl rfl (by simp) (fun _ _ => trivial)
theorem litB (W : World) : SlR byteR (W.alloc (.cells cB 5)) (fun _ => True) (.slice (some ⟨W.heap.size, 0, none⟩) 3 3) [221, 203, 5] := slR_lit W 5 (fun _ => True) [221, 203, 5] cB 3 rfl rfl (by simp) (fun _ _ => trivial)
theorem firstA (W : World) (hT : Spc W) : Calls Tryz.prog 18 #[.slice (some ⟨W.heap.size, 0, none⟩) 2 2] (W.alloc (.cells cA 5)) fun e w' => (∃ ra rc s va vn vc f, e = .returned (.agg #[.int .i64 2, .slice ra 1 rc, .string s, .slice va vn vc, .bool f])) ∧ RowKit.Below W.heap.size W w' := by
  have hb : RowKit.Below W.heap.size W (W.alloc (.cells cA 5)) := (Below.refl _ _).alloc (Nat.le_refl _) _
  refine (First_any _ _ _ [221, 0] _ (hT.below hb) (litA W) (by decide) (by decide)).mono ?_
  rintro e w' ⟨⟨v, rfl, ra, rc, va, vc, hv, _, _⟩, hb2⟩
  unfold itmV at hv
  rw [ex1.2, ex1.1] at hv
  exact ⟨⟨_, _, _, _, _, _, _, by rw [hv]⟩, hb.trans (hb2.mono hb.size)⟩
theorem firstB (W : World) (hT : Spc W) : Calls Tryz.prog 18 #[.slice (some ⟨W.heap.size, 0, none⟩) 3 3] (W.alloc (.cells cB 5)) fun e w' => (∃ ra rc s va vn vc f, e = .returned (.agg #[.int .i64 4, .slice ra 3 rc, .string s, .slice va vn vc, .bool f])) ∧ RowKit.Below W.heap.size W w' := by
  have hb : RowKit.Below W.heap.size W (W.alloc (.cells cB 5)) := (Below.refl _ _).alloc (Nat.le_refl _) _
  refine (First_any _ _ _ [221, 203, 5] _ (hT.below hb) (litB W) (by decide) (by decide)).mono ?_
  rintro e w' ⟨⟨v, rfl, ra, rc, va, vc, hv, _, _⟩, hb2⟩
  unfold itmV at hv
  rw [ex2.2.1, ex2.1] at hv
  exact ⟨⟨_, _, _, _, _, _, _, by rw [hv]⟩, hb.trans (hb2.mono hb.size)⟩
theorem needB (W : World) (hT : Spc W) : Calls Tryz.prog 16 #[.slice (some ⟨W.heap.size, 0, none⟩) 3 3] (W.alloc (.cells cB 5)) fun e w' => e = .returned (.int .i64 4) ∧ RowKit.Below W.heap.size W w' := by
  have hb : RowKit.Below W.heap.size W (W.alloc (.cells cB 5)) := (Below.refl _ _).alloc (Nat.le_refl _) _
  exact (NeedA_any _ _ _ _ (hT.below hb) (litB W)).mono (fun e w' h => ⟨h.1, hb.trans (h.2.mono hb.size)⟩)
set_option maxHeartbeats 4000000 in
set_option maxRecDepth 100000 in
theorem alive12_any (w : World) (hT : Spc w) : Calls Tryz.prog 15 #[] w fun e w' => e = .returned (.bool true) ∧ RowKit.Below w.heap.size w w' := by
  have HT := Lib.hid (fun W (hb : RowKit.Below w.heap.size w W) => hT.below hb)
  have HFA := Lib.hid (fun W h => firstA W h)
  have HFB := Lib.hid (fun W h => firstB W h)
  have HNB := Lib.hid (fun W h => needB W h)
  have H0 : Hid (RowKit.Below w.heap.size w w) := Lib.hid (Below.refl _ _)
  clear hT
  go_enter Tryz.func15, Tryz.ntmps15
  go_upto_region 2 with (first
    | (go_at_call 18; (with_reducible refine (HFA.out _ (HT.out _ H0.out)).mono ?_); rintro e w1 ⟨⟨ra, rc, s1, va, vn, vc, f1, rfl⟩, hb⟩; have H1 := Lib.hid hb; clear hb)
    | (go_at_call 18; (with_reducible refine (HFB.out _ (HT.out _ H1.out)).mono ?_); rintro e w2 ⟨⟨rb, rd, s2, vb, vm, vd, f2, rfl⟩, hb⟩; have H2 := Lib.hid (H1.out.trans (hb.mono H1.out.size)); clear hb))
  have HF := Lib.hid ((((Fr.start w).next H2.out).new' 29 #[.int .i64 2, .slice ra 1 rc, .string s1, .slice va vn vc, .bool f1] (b := w2.heap.size) rfl).new' 29 #[.int .i64 4, .slice rb 3 rd, .string s2, .slice vb vm vd, .bool f2] (b := w2.heap.size + 1) (World.size_alloc _ _))
  generalize ((w2.alloc (.cells #[.int .i64 2, .slice ra 1 rc, .string s1, .slice va vn vc, .bool f1] 29)).alloc (.cells #[.int .i64 4, .slice rb 3 rd, .string s2, .slice vb vm vd, .bool f2] 29)) = W3 at *
  generalize w2.heap.size = tb at *
  obtain ⟨⟨c0, c1, c2, c3, c4⟩, _⟩ := (HF.out.blk 1 rfl).five
  obtain ⟨⟨d0, d1, d2, d3, d4⟩, _⟩ := (HF.out.blk 0 rfl).five
  go_wp2_with (go_at_call 16; (with_reducible refine (HNB.out _ (HT.out _ HF.out.below)).mono ?_); rintro e w4 ⟨rfl, hb⟩; have H4 := Lib.hid (HF.out.below.trans (hb.mono HF.out.below.size)); clear hb)
  go_ret
  exact ⟨rfl, H4.out⟩
end Go.Proofs.YtnbmbcjnncbaiaaGreatDoor
namespace Go.Proofs.YtnbmbcjnncbaiaaGreatDoor
open Go.RowKit Go.Shelf Go.Sort

set_option maxHeartbeats 4000000 in
set_option maxRecDepth 100000 in
theorem Same12_any (x : Itm) (l : List UInt8) (B1 B2 : Nat) (v1 v2 : Value) (w : World) (h1 : ItmR w B1 x l v1) (h2 : ItmR w B2 x l v2) :
    Calls Tryz.prog 20 #[v1, v2] w fun e w' => e = .returned (.bool true) ∧ RowKit.Below w.heap.size w w' := by
  obtain ⟨ra, rc, va, vc, rfl, s1, a1⟩ := h1
  obtain ⟨rb, rd, vb, vd, rfl, s2, a2⟩ := h2
  unfold itmV
  generalize l.take x.n = R at *
  obtain ⟨k, n, op, args, al⟩ := x
  dsimp only at *
  have HF := Lib.hid (((Fr.start w).new' 29 #[.int .i64 k, .slice ra R.length rc, .string ⟨op.toArray⟩, .slice va args.length vc, .bool al] (b := w.heap.size) rfl).new' 29 #[.int .i64 k, .slice rb R.length rd, .string ⟨op.toArray⟩, .slice vb args.length vd, .bool al] (b := w.heap.size + 1) (World.size_alloc _ _))
  have k1 := run_string_sl _ _ _ R (s1.below HF.out.below)
  have k2 := run_string_sl _ _ _ R (s2.below HF.out.below)
  have HS := Lib.hid (ref07Same_any _ _ ⟨⟨op.toArray⟩, args⟩ ⟨⟨op.toArray⟩, args⟩ (.slice va args.length vc) (.slice vb args.length vd) _ (a1.below HF.out.below) (a2.below HF.out.below))
  rw [show insEq ⟨⟨op.toArray⟩, args⟩ ⟨⟨op.toArray⟩, args⟩ = true by simp [insEq]] at HS
  dsimp only at HS
  obtain ⟨S, hS⟩ : ∃ S : ByteArray, S = ⟨R.toArray⟩ := ⟨_, rfl⟩
  rw [← hS] at k1 k2
  obtain ⟨O, hO⟩ : ∃ S : ByteArray, S = ⟨op.toArray⟩ := ⟨_, rfl⟩
  rw [← hO] at HS HF k1 k2 ⊢
  clear hS hO s1 s2 a1 a2
  obtain ⟨W, hW⟩ : ∃ W : World, W = ((w.alloc (.cells #[.int .i64 k, .slice ra R.length rc, .string O, .slice va args.length vc, .bool al] 29)).alloc (.cells #[.int .i64 k, .slice rb R.length rd, .string O, .slice vb args.length vd, .bool al] 29)) := ⟨_, rfl⟩
  rw [← hW] at HS HF k1 k2
  obtain ⟨⟨c0, c1, c2, c3, c4⟩, _⟩ := (HF.out.blk 1 rfl).five
  obtain ⟨⟨d0, d1, d2, d3, d4⟩, _⟩ := (HF.out.blk 0 rfl).five
  go_enter Tryz.func20, Tryz.ntmps20
  go_upto_region 1 with fail
  rw [← hW]
  clear hW
  go_wp2_with (go_at_call 22; refine (HS.out).mono ?_; rintro e w4 ⟨rfl, hb⟩; have H4 := Lib.hid (HF.out.next hb); clear hb c0 c1 c2 c3 c4 d0 d1 d2 d3 d4; obtain ⟨⟨c0, c1, c2, c3, c4⟩, _⟩ := (H4.out.blk 1 rfl).five; obtain ⟨⟨d0, d1, d2, d3, d4⟩, _⟩ := (H4.out.blk 0 rfl).five)
  go_ret
  exact ⟨rfl, H4.out.below⟩
theorem cut_from (b o len cap k : Nat) (h1 : k ≤ len) (h2 : k < cap) (W : World) : (Instr.sliceAt 22 (.slice (some ⟨b, o, none⟩) len cap) (some (.int .i64 (k : Int))) none none).run Tryz.prog W = .ok (.slice (some ⟨b, o + k, none⟩) (len - k) (cap - k)) W := by
  rw [run_sliceAt_slice _ _ _ _ _ _ (by kernel_rfl), run_slice_l W _ (some ⟨b, o, none⟩) len cap (by kernel_rfl) .i64 (k : Int) (by omega) (by omega)]
  go_simp
  omega
theorem SlR.dropB {w : World} {p : Blocks} {b o c k : Nat} {xs : List UInt8} (h : SlR byteR w p (.slice (some ⟨b, o, none⟩) xs.length c) xs) (hk : k ≤ xs.length) : SlR byteR w p (.slice (some ⟨b, o + k, none⟩) (xs.drop k).length (c - k)) (xs.drop k) := by
  obtain ⟨a2, c2, e, h1, h2, h3⟩ := h
  injection e with e1 e2 e3
  subst e1 e3
  refine ⟨_, _, rfl, by rw [List.length_drop]; omega, by unfold maxLen at *; omega, fun i x hx => ?_⟩
  rw [List.getElem?_drop] at hx
  obtain ⟨b', o', cs, ea, hb, hbs, hc, hr⟩ := h3 (k + i) x hx
  injection ea with ea
  injection ea with e1 e2
  subst e1 e2
  exact ⟨b, o + k, cs, rfl, hb, hbs, by rw [show o + k + i * byteR.size = o + (k + i) * byteR.size from by show o + k + i * 1 = o + (k + i) * 1; omega]; exact hc, hr⟩
end Go.Proofs.YtnbmbcjnncbaiaaGreatDoor
namespace Go.Proofs.YtnbmbcjnncbaiaaGreatDoor
open Go.RowKit Go.Shelf Go.Sort

theorem at_end {fn : Func} {p u v : Tmp} (h : fn.results = #[.cell p 29, .tmp u, .tmp v]) {tmps : Array Value} {w' : World} {g : Nat} {v0 v1 v2 v3 v4 : Value} (hp : tmps.getD p undef = .pointer (some ⟨g, 0, none⟩)) (hg : Blk w' g 29 #[v0, v1, v2, v3, v4]) : (results fn tmps).run Tryz.prog w' = .ok (.tuple #[.agg #[v0, v1, v2, v3, v4], tmps.getD u undef, tmps.getD v undef]) w' := by
  obtain ⟨⟨c0, c1, c2, c3, c4⟩, _⟩ := hg.five
  have hp' : tmps[p]?.getD undef = .pointer (some ⟨g, 0, none⟩) := by simpa using hp
  simp [results, h, hp', go_sem, c0, c1, c2, c3, c4]
set_option maxHeartbeats 4000000 in
set_option maxRecDepth 100000 in
theorem At_no (a : Option Addr) (c : Nat) (m : Nat) (i : Int) (w : World) (h : i < 0 ∨ (m : Int) ≤ i) :
    Calls Tryz.prog 23 #[.slice a m c, .int .i64 i] w fun e w' => e = .returned (.tuple #[.agg itm0, .int .i64 0, .bool false]) ∧ RowKit.Below w.heap.size w w' := by
  have HF0 := Lib.hid ((Fr.start w).new 29 itm0)
  obtain ⟨W0, hW0⟩ : ∃ W : World, W = w.alloc (.cells itm0 29) := ⟨_, rfl⟩
  rw [← hW0] at HF0
  cases h1 : decide (i < 0)
  · have h1 := of_decide_eq_false h1
    have h2 : (m : Int) ≤ i := h.resolve_left h1
    clear h
    go_enter Tryz.func23, Tryz.ntmps23
    go_upto_region 1 with fail
    rw [← hW0]
    clear hW0
    obtain ⟨⟨c0, c1, c2, c3, c4⟩, f0, f1, f2, f3, f4⟩ := (HF0.out.blk 0 rfl).five
    go_wp2
    have F5 := Lib.hid (HF0.out.set5 (Nat.le_refl _) (fun x hx => by cases hx) (.int .i64 0) (.slice none 0 0) (.string ⟨#[]⟩) (.slice none 0 0) (.bool false))
    exact bodyPost_ret (at_end rfl rfl (F5.out.blk 0 rfl)) rfl ⟨rfl, F5.out.below⟩
  · have h1 := of_decide_eq_true h1
    clear h
    go_enter Tryz.func23, Tryz.ntmps23
    go_upto_region 1 with fail
    rw [← hW0]
    clear hW0
    obtain ⟨⟨c0, c1, c2, c3, c4⟩, f0, f1, f2, f3, f4⟩ := (HF0.out.blk 0 rfl).five
    go_wp2
    have F5 := Lib.hid (HF0.out.set5 (Nat.le_refl _) (fun x hx => by cases hx) (.int .i64 0) (.slice none 0 0) (.string ⟨#[]⟩) (.slice none 0 0) (.bool false))
    exact bodyPost_ret (at_end rfl rfl (F5.out.blk 0 rfl)) rfl ⟨rfl, F5.out.below⟩
set_option maxHeartbeats 4000000 in
set_option maxRecDepth 100000 in
theorem At_yes (p : Blocks) (a : Option Addr) (c : Nat) (l : List UInt8) (k : Nat) (w : World) (hT : Spc w) (hs : SlR byteR w p (.slice a l.length c) l) (hk : k < l.length) (hl : l.length ≤ 1000000) :
    Calls Tryz.prog 23 #[.slice a l.length c, .int .i64 k] w fun e w' => (∃ v, e = .returned (.tuple #[v, .int .i64 ((k : Int) + ((l.drop k).take (itF (l.drop k)).n).length), .bool true]) ∧ ItmR w' w.heap.size (itF (l.drop k)) (l.drop k) v) ∧ RowKit.Below w.heap.size w w' := by
  obtain ⟨b, o, rfl, hc1, hc2, _⟩ := byteAt hs (by omega)
  have hcut := cut_from b o l.length c k (by omega) (by omega)
  have hlen : (l.drop k).length = l.length - k := List.length_drop
  rw [← hlen] at hcut
  have HFI := Lib.hid (fun W (hb : RowKit.Below w.heap.size w W) => First_any p (some ⟨b, o + k, none⟩) (c - k) (l.drop k) W (hT.below hb) ((hs.dropB (by omega)).below hb) (by omega) (by omega))
  have HLN : Hid (((l.drop k).take (itF (l.drop k)).n).length ≤ l.length - k) := Lib.hid (by rw [List.length_take]; omega)
  have HL := Lib.hid hl
  have HF0 := Lib.hid ((Fr.start w).new 29 itm0)
  have hk' : ¬ (l.length : Int) ≤ (k : Int) := by omega
  have hk0 : ¬ (k : Int) < 0 := by omega
  have HKL := Lib.hid hk
  clear hT hs hk hl hlen hc1 hc2
  generalize l.drop k = L at *
  generalize l.length = m at *
  obtain ⟨R1, hR1⟩ : ∃ R, R = L.take (itF L).n := ⟨_, rfl⟩
  rw [← hR1] at HLN ⊢
  have HR1 := Lib.hid hR1
  clear hR1
  have hw9 : IntKind.i64.wrap ((k : Int) + R1.length) = (k : Int) + R1.length := by have := HLN.out; have := HL.out; have := HKL.out; rw [IntKind.wrap_i64]; omega
  obtain ⟨W0, hW0⟩ : ∃ W : World, W = w.alloc (.cells itm0 29) := ⟨_, rfl⟩
  rw [← hW0] at HF0
  go_enter Tryz.func23, Tryz.ntmps23
  go_upto_region 1 with fail
  rw [← hW0]
  clear hW0
  go_upto_region 4 with (go_at_call 18; refine (HFI.out _ HF0.out.below).mono ?_; rintro e w1 ⟨⟨v, rfl, hi⟩, hb⟩; obtain ⟨ra, rc, va, vc, rfl, h1, h2⟩ := hi; rw [← HR1.out] at h1 ⊢; have H1 := Lib.hid h1; have H2 := Lib.hid h2; have HF1 := Lib.hid (HF0.out.next hb); clear h1 h2 hb; unfold itmV)
  have HF2 := Lib.hid ((HF1.out.new' 29 #[.int .i64 (itF L).k, .slice ra R1.length rc, .string ⟨(itF L).op.toArray⟩, .slice va (itF L).args.length vc, .bool (itF L).al] (b := w1.heap.size) rfl))
  have HZ : Hid (w.heap.size < w1.heap.size) := Lib.hid ((HF1.out.blk 0 rfl).lt)
  have HZ0 : Hid (w.heap.size < W0.heap.size) := Lib.hid ((HF0.out.blk 0 rfl).lt)
  have HA1 := Lib.hid (H1.out.alloc (.cells #[.int .i64 (itF L).k, .slice ra R1.length rc, .string ⟨(itF L).op.toArray⟩, .slice va (itF L).args.length vc, .bool (itF L).al] 29))
  have HA2 := Lib.hid (H2.out.alloc (.cells #[.int .i64 (itF L).k, .slice ra R1.length rc, .string ⟨(itF L).op.toArray⟩, .slice va (itF L).args.length vc, .bool (itF L).al] 29))
  generalize w1.alloc (.cells #[.int .i64 (itF L).k, .slice ra R1.length rc, .string ⟨(itF L).op.toArray⟩, .slice va (itF L).args.length vc, .bool (itF L).al] 29) = W2 at *
  generalize w1.heap.size = tb at *
  obtain ⟨⟨c0, c1, c2, c3, c4⟩, _⟩ := (HF2.out.blk 0 rfl).five
  obtain ⟨⟨m0, m1, m2, m3, m4⟩, g0, g1, g2, g3, g4⟩ := (HF2.out.blk 1 rfl).five
  have hne1 : ¬ tb = w.heap.size := by have := HZ.out; omega
  have hne2 : ¬ w.heap.size = tb := by have := HZ.out; omega
  go_region
  all_goals go_wp2
  all_goals have F5 := Lib.hid (HF2.out.swap.set5 (Nat.le_refl _) (fun x hx => by rw [List.mem_singleton.1 hx]; have := HZ.out; show tb ≠ w.heap.size; omega) (.int .i64 (itF L).k) (.slice ra R1.length rc) (.string ⟨(itF L).op.toArray⟩) (.slice va (itF L).args.length vc) (.bool (itF L).al))
  all_goals have HM : ItmR W2 W0.heap.size (itF L) L (.agg #[.int .i64 (itF L).k, .slice ra R1.length rc, .string ⟨(itF L).op.toArray⟩, .slice va (itF L).args.length vc, .bool (itF L).al]) := ⟨ra, rc, va, vc, by rw [← HR1.out]; rfl, by rw [← HR1.out]; exact HA1.out, HA2.out⟩
  all_goals have F6 := Lib.hid F5.out.drew
  all_goals exact bodyPost_ret (at_end rfl rfl (F6.out.blk 0 rfl)) rfl ⟨⟨_, rfl, ((HM.off5 HZ0.out _ _ _ _ _).next (Below.refl _ _).drew).base (Nat.le_of_lt HZ0.out)⟩, F6.out.below⟩
end Go.Proofs.YtnbmbcjnncbaiaaGreatDoor
