/-
  breadboardref12.Same on alike items; decode.At. Conditions: the library's table as its initialiser lays it; sizes.
-/
import Derived.Test.YtjmekllgnhkodaaGreatDoorD12
namespace Go.Proofs.YtjmekllgnhkodaaGreatDoor
open Go.RowKit Go.Shelf Go.Sort

set_option maxHeartbeats 4000000 in
set_option maxRecDepth 100000 in
theorem Same12_any (x : Itm) (l : List UInt8) (B1 B2 : Nat) (v1 v2 : Value) (w : World) (h1 : ItmR w B1 x l v1) (h2 : ItmR w B2 x l v2) :
    Calls Tryz.prog 19 #[v1, v2] w fun e w' => e = .returned (.bool true) ∧ RowKit.Below w.heap.size w w' := by
  obtain ⟨ra, rc, va, vc, rfl, s1, a1⟩ := h1
  obtain ⟨rb, rd, vb, vd, rfl, s2, a2⟩ := h2
  unfold itmV
  generalize l.take x.n = R at *
  obtain ⟨k, n, op, args, al⟩ := x
  dsimp only at *
  have HF := Lib.hid (((Fr.start w).new' 29 #[.int .i64 k, .slice ra R.length rc, .string ⟨op.toArray⟩, .slice va args.length vc, .bool al] (b := w.heap.size) rfl).new' 29 #[.int .i64 k, .slice rb R.length rd, .string ⟨op.toArray⟩, .slice vb args.length vd, .bool al] (b := w.heap.size + 1) (World.size_alloc _ _))
  have k1 := run_string_sl _ _ _ R (s1.below HF.out.below)
  have k2 := run_string_sl _ _ _ R (s2.below HF.out.below)
  have HS := Lib.hid (ref07Same_any _ _ ⟨⟨op.toArray⟩, args⟩ ⟨⟨op.toArray⟩, args⟩ (.slice va args.length vc) (.slice vb args.length vd) _ (a1.below HF.out.below) (a2.below HF.out.below))
  rw [show insEq ⟨⟨op.toArray⟩, args⟩ ⟨⟨op.toArray⟩, args⟩ = true by simp [insEq]] at HS
  dsimp only at HS
  obtain ⟨S, hS⟩ : ∃ S : ByteArray, S = ⟨R.toArray⟩ := ⟨_, rfl⟩
  rw [← hS] at k1 k2
  obtain ⟨O, hO⟩ : ∃ S : ByteArray, S = ⟨op.toArray⟩ := ⟨_, rfl⟩
  rw [← hO] at HS HF k1 k2 ⊢
  clear hS hO s1 s2 a1 a2
  obtain ⟨W, hW⟩ : ∃ W : World, W = ((w.alloc (.cells #[.int .i64 k, .slice ra R.length rc, .string O, .slice va args.length vc, .bool al] 29)).alloc (.cells #[.int .i64 k, .slice rb R.length rd, .string O, .slice vb args.length vd, .bool al] 29)) := ⟨_, rfl⟩
  rw [← hW] at HS HF k1 k2
  obtain ⟨⟨c0, c1, c2, c3, c4⟩, _⟩ := (HF.out.blk 1 rfl).five
  obtain ⟨⟨d0, d1, d2, d3, d4⟩, _⟩ := (HF.out.blk 0 rfl).five
  go_enter Tryz.func19, Tryz.ntmps19
  go_upto_region 1 with fail
  rw [← hW]
  clear hW
  go_wp2_with (go_at_call 21; refine (HS.out).mono ?_; rintro e w4 ⟨rfl, hb⟩; have H4 := Lib.hid (HF.out.next hb); clear hb c0 c1 c2 c3 c4 d0 d1 d2 d3 d4; obtain ⟨⟨c0, c1, c2, c3, c4⟩, _⟩ := (H4.out.blk 1 rfl).five; obtain ⟨⟨d0, d1, d2, d3, d4⟩, _⟩ := (H4.out.blk 0 rfl).five)
  go_ret
  exact ⟨rfl, H4.out.below⟩
theorem cut_from (b o len cap k : Nat) (h1 : k ≤ len) (h2 : k < cap) (W : World) : (Instr.sliceAt 22 (.slice (some ⟨b, o, none⟩) len cap) (some (.int .i64 (k : Int))) none none).run Tryz.prog W = .ok (.slice (some ⟨b, o + k, none⟩) (len - k) (cap - k)) W := by
  rw [run_sliceAt_slice _ _ _ _ _ _ (by kernel_rfl), run_slice_l W _ (some ⟨b, o, none⟩) len cap (by kernel_rfl) .i64 (k : Int) (by omega) (by omega)]
  go_simp
  omega
theorem SlR.dropB {w : World} {p : Blocks} {b o c k : Nat} {xs : List UInt8} (h : SlR byteR w p (.slice (some ⟨b, o, none⟩) xs.length c) xs) (hk : k ≤ xs.length) : SlR byteR w p (.slice (some ⟨b, o + k, none⟩) (xs.drop k).length (c - k)) (xs.drop k) := by
  obtain ⟨a2, c2, e, h1, h2, h3⟩ := h
  injection e with e1 e2 e3
  subst e1 e3
  refine ⟨_, _, rfl, by rw [List.length_drop]; omega, by unfold maxLen at *; omega, fun i x hx => ?_⟩
  rw [List.getElem?_drop] at hx
  obtain ⟨b', o', cs, ea, hb, hbs, hc, hr⟩ := h3 (k + i) x hx
  injection ea with ea
  injection ea with e1 e2
  subst e1 e2
  exact ⟨b, o + k, cs, rfl, hb, hbs, by rw [show o + k + i * byteR.size = o + (k + i) * byteR.size from by show o + k + i * 1 = o + (k + i) * 1; omega]; exact hc, hr⟩
end Go.Proofs.YtjmekllgnhkodaaGreatDoor
