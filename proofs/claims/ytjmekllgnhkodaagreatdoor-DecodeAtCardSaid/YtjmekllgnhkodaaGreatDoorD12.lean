/-
  law12.alive. Conditions: the library's table as its initialiser lays it.
-/
import Derived.Test.YtjmekllgnhkodaaGreatDoorD11
namespace Go.Proofs.YtjmekllgnhkodaaGreatDoor
open Go.RowKit Go.Shelf Go.Sort

abbrev cA : Array Value := #[.int .u8 221, .int .u8 0]
abbrev cB : Array Value := #[.int .u8 221, .int .u8 203, .int .u8 5]
theorem litA (W : World) : SlR byteR (W.alloc (.cells cA 5)) (fun _ => True) (.slice (some ⟨W.heap.size, 0, none⟩) 2 2) [221, 0] := slR_lit W 5 (fun _ => True) [221, 0] cA 2 rfl rfl (by simp) (fun _ _ => trivial)
theorem litB (W : World) : SlR byteR (W.alloc (.cells cB 5)) (fun _ => True) (.slice (some ⟨W.heap.size, 0, none⟩) 3 3) [221, 203, 5] := slR_lit W 5 (fun _ => True) [221, 203, 5] cB 3 rfl rfl (by simp) (fun _ _ => trivial)
theorem firstA (W : World) (hT : Spc W) : Calls Tryz.prog 17 #[.slice (some ⟨W.heap.size, 0, none⟩) 2 2] (W.alloc (.cells cA 5)) fun e w' => (∃ ra rc s va vn vc f, e = .returned (.agg #[.int .i64 2, .slice ra 1 rc, .string s, .slice va vn vc, .bool f])) ∧ RowKit.Below W.heap.size W w' := by
  have hb : RowKit.Below W.heap.size W (W.alloc (.cells cA 5)) := (Below.refl _ _).alloc (Nat.le_refl _) _
  refine (First_any _ _ _ [221, 0] _ (hT.below hb) (litA W) (by decide) (by decide)).mono ?_
  rintro e w' ⟨⟨v, rfl, ra, rc, va, vc, hv, _, _⟩, hb2⟩
  unfold itmV at hv
  rw [ex1.2, ex1.1] at hv
  exact ⟨⟨_, _, _, _, _, _, _, by rw [hv]⟩, hb.trans (hb2.mono hb.size)⟩
theorem firstB (W : World) (hT : Spc W) : Calls Tryz.prog 17 #[.slice (some ⟨W.heap.size, 0, none⟩) 3 3] (W.alloc (.cells cB 5)) fun e w' => (∃ ra rc s va vn vc f, e = .returned (.agg #[.int .i64 4, .slice ra 3 rc, .string s, .slice va vn vc, .bool f])) ∧ RowKit.Below W.heap.size W w' := by
  have hb : RowKit.Below W.heap.size W (W.alloc (.cells cB 5)) := (Below.refl _ _).alloc (Nat.le_refl _) _
  refine (First_any _ _ _ [221, 203, 5] _ (hT.below hb) (litB W) (by decide) (by decide)).mono ?_
  rintro e w' ⟨⟨v, rfl, ra, rc, va, vc, hv, _, _⟩, hb2⟩
  unfold itmV at hv
  rw [ex2.2.1, ex2.1] at hv
  exact ⟨⟨_, _, _, _, _, _, _, by rw [hv]⟩, hb.trans (hb2.mono hb.size)⟩
theorem needB (W : World) (hT : Spc W) : Calls Tryz.prog 15 #[.slice (some ⟨W.heap.size, 0, none⟩) 3 3] (W.alloc (.cells cB 5)) fun e w' => e = .returned (.int .i64 4) ∧ RowKit.Below W.heap.size W w' := by
  have hb : RowKit.Below W.heap.size W (W.alloc (.cells cB 5)) := (Below.refl _ _).alloc (Nat.le_refl _) _
  exact (NeedA_any _ _ _ _ (hT.below hb) (litB W)).mono (fun e w' h => ⟨h.1, hb.trans (h.2.mono hb.size)⟩)
set_option maxHeartbeats 4000000 in
set_option maxRecDepth 100000 in
theorem alive12_any (w : World) (hT : Spc w) : Calls Tryz.prog 14 #[] w fun e w' => e = .returned (.bool true) ∧ RowKit.Below w.heap.size w w' := by
  have HT := Lib.hid (fun W (hb : RowKit.Below w.heap.size w W) => hT.below hb)
  have HFA := Lib.hid (fun W h => firstA W h)
  have HFB := Lib.hid (fun W h => firstB W h)
  have HNB := Lib.hid (fun W h => needB W h)
  have H0 : Hid (RowKit.Below w.heap.size w w) := Lib.hid (Below.refl _ _)
  clear hT
  go_enter Tryz.func14, Tryz.ntmps14
  go_upto_region 2 with (first
    | (go_at_call 17; (with_reducible refine (HFA.out _ (HT.out _ H0.out)).mono ?_); rintro e w1 ⟨⟨ra, rc, s1, va, vn, vc, f1, rfl⟩, hb⟩; have H1 := Lib.hid hb; clear hb)
    | (go_at_call 17; (with_reducible refine (HFB.out _ (HT.out _ H1.out)).mono ?_); rintro e w2 ⟨⟨rb, rd, s2, vb, vm, vd, f2, rfl⟩, hb⟩; have H2 := Lib.hid (H1.out.trans (hb.mono H1.out.size)); clear hb))
  have HF := Lib.hid ((((Fr.start w).next H2.out).new' 29 #[.int .i64 2, .slice ra 1 rc, .string s1, .slice va vn vc, .bool f1] (b := w2.heap.size) rfl).new' 29 #[.int .i64 4, .slice rb 3 rd, .string s2, .slice vb vm vd, .bool f2] (b := w2.heap.size + 1) (World.size_alloc _ _))
  generalize ((w2.alloc (.cells #[.int .i64 2, .slice ra 1 rc, .string s1, .slice va vn vc, .bool f1] 29)).alloc (.cells #[.int .i64 4, .slice rb 3 rd, .string s2, .slice vb vm vd, .bool f2] 29)) = W3 at *
  generalize w2.heap.size = tb at *
  obtain ⟨⟨c0, c1, c2, c3, c4⟩, _⟩ := (HF.out.blk 1 rfl).five
  obtain ⟨⟨d0, d1, d2, d3, d4⟩, _⟩ := (HF.out.blk 0 rfl).five
  go_wp2_with (go_at_call 15; (with_reducible refine (HNB.out _ (HT.out _ HF.out.below)).mono ?_); rintro e w4 ⟨rfl, hb⟩; have H4 := Lib.hid (HF.out.below.trans (hb.mono HF.out.below.size)); clear hb)
  go_ret
  exact ⟨rfl, H4.out⟩
end Go.Proofs.YtjmekllgnhkodaaGreatDoor
