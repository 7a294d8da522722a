/-
  The reference's instructions with the prefix CB. Conditions: the opcode is a byte.
-/
import Derived.Test.YtlepicdjnbbndaaGreatDoorSC
namespace Go.Proofs.YtlepicdjnbbndaaGreatDoor
open Go.RowKit Go.Shelf Go.Sort

set_option maxHeartbeats 4000000 in
set_option maxRecDepth 100000 in
theorem cb_0_0 (op : Int) (o : Opd) (h0 : 0 ≤ op) (h8 : op < 256) (hx : op / 64 = 0) (hy : op / 8 % 8 = 0) (w : World) : Calls Tryz.prog 50 #[.int .u8 op, .agg #[.int .i64 o.kind, .int .i64 o.reg, .int .i64 o.n]] w (InsOw w ⟨#[82, 76, 67]⟩ [o]) := by
  have HX := Lib.hid (((Fr.start w).new 87 #[.int .i64 o.kind, .int .i64 o.reg, .int .i64 o.n]).new' 25 #[.string ⟨#[]⟩, .slice none 0 0] (b := w.heap.size + 1) (by rw [World.size_alloc]))
  have H := Lib.hid HX.out.drew
  have HA := Lib.hid (HX.out.new' 9 #[.string ⟨#[82, 76, 67]⟩, .string ⟨#[82, 82, 67]⟩, .string ⟨#[82, 76]⟩, .string ⟨#[82, 82]⟩, .string ⟨#[83, 76, 65]⟩, .string ⟨#[83, 82, 65]⟩, .string ⟨#[83, 76, 76]⟩, .string ⟨#[83, 82, 76]⟩] (b := w.heap.size + 2) (by rw [World.size_alloc, World.size_alloc])).drew
  go_enter Tryz.func50, Tryz.ntmps50
  go_upto_region 4 with fail
  obtain ⟨f0, f1, f2, _, _, _⟩ := (H.out.mem w.heap.size 87 #[.int .i64 o.kind, .int .i64 o.reg, .int .i64 o.n] (by simp)).three
  obtain ⟨e0, e1, d0, d1⟩ := (H.out.mem (w.heap.size + 1) 25 #[.string ⟨#[]⟩, .slice none 0 0] (by simp)).two
  have n3 := (H.out.mem (w.heap.size + 1) 25 #[.string ⟨#[]⟩, .slice none 0 0] (by simp)).lt
  obtain ⟨p0, p1, p2, _, _, _⟩ := (HA.out.mem w.heap.size 87 #[.int .i64 o.kind, .int .i64 o.reg, .int .i64 o.n] (by simp)).three
  go_region_law ((go_simp; (first
      | (go_at_call 101; refine (frLo (b := w.heap.size + 1) (t := 25) (cs := #[.string ⟨#[]⟩, .slice none 0 0]) (Lib.hid (HX.out.new' 9 #[.string ⟨#[82, 76, 67]⟩, .string ⟨#[82, 82, 67]⟩, .string ⟨#[82, 76]⟩, .string ⟨#[82, 82]⟩, .string ⟨#[83, 76, 65]⟩, .string ⟨#[83, 82, 65]⟩, .string ⟨#[83, 76, 76]⟩, .string ⟨#[83, 82, 76]⟩] (b := w.heap.size + 2) (by rw [World.size_alloc, World.size_alloc])).drew) (by simp) (one_own _ _)).mono ?_; rintro e w' ⟨va, vc, rfl, HO, Hn⟩; clear f0 f1 f2 e0 e1 d0 d1 n3; clear H; have H := Hn; clear Hn; have HS := Lib.hid (H.out.blk 0 rfl); have s0 := HS.out.cell 0; obtain ⟨f0, f1, f2, _, _, _⟩ := (H.out.mem w.heap.size 87 #[.int .i64 o.kind, .int .i64 o.reg, .int .i64 o.n] (by simp)).three; obtain ⟨e0, e1, d0, d1⟩ := (H.out.mem (w.heap.size + 1) 25 #[.string ⟨#[]⟩, .slice none 0 0] (by simp)).two; have n3 := (H.out.mem (w.heap.size + 1) 25 #[.string ⟨#[]⟩, .slice none 0 0] (by simp)).lt)
      | (go_at_call 101; refine (frLo (b := w.heap.size + 1) (t := 25) (cs := #[.string ⟨#[]⟩, .slice none 0 0]) H (by simp) (one_own _ _)).mono ?_; rintro e w' ⟨va, vc, rfl, HO, Hn⟩; clear f0 f1 f2 e0 e1 d0 d1 n3; clear H; have H := Hn; clear Hn; obtain ⟨f0, f1, f2, _, _, _⟩ := (H.out.mem w.heap.size 87 #[.int .i64 o.kind, .int .i64 o.reg, .int .i64 o.n] (by simp)).three; obtain ⟨e0, e1, d0, d1⟩ := (H.out.mem (w.heap.size + 1) 25 #[.string ⟨#[]⟩, .slice none 0 0] (by simp)).two; have n3 := (H.out.mem (w.heap.size + 1) 25 #[.string ⟨#[]⟩, .slice none 0 0] (by simp)).lt)
      | (go_at_call 97; refine (frIo H (ins_own _ _ _ _ _ HO.out)).mono ?_; rintro e w' ⟨rfl, HOn, Hn⟩; clear f0 f1 f2 e0 e1 d0 d1 n3; clear HO H; have HO := HOn; have H := Hn; clear HOn Hn; obtain ⟨f0, f1, f2, _, _, _⟩ := (H.out.mem w.heap.size 87 #[.int .i64 o.kind, .int .i64 o.reg, .int .i64 o.n] (by simp)).three; obtain ⟨e0, e1, d0, d1⟩ := (H.out.mem (w.heap.size + 1) 25 #[.string ⟨#[]⟩, .slice none 0 0] (by simp)).two; have n3 := (H.out.mem (w.heap.size + 1) 25 #[.string ⟨#[]⟩, .slice none 0 0] (by simp)).lt)
      | (go_at_call 97; refine (frIo (Lib.hid (H.out.alloc _)) (ins_own _ _ _ _ _ (HO.out.below ((Below.refl _ _).alloc (Nat.le_refl _) _)))).mono ?_; rintro e w' ⟨rfl, HOn, Hn⟩; clear f0 f1 f2 e0 e1 d0 d1 n3; clear HO H; have HO := HOn; have H := Hn; clear HOn Hn; obtain ⟨f0, f1, f2, _, _, _⟩ := (H.out.mem w.heap.size 87 #[.int .i64 o.kind, .int .i64 o.reg, .int .i64 o.n] (by simp)).three; obtain ⟨e0, e1, d0, d1⟩ := (H.out.mem (w.heap.size + 1) 25 #[.string ⟨#[]⟩, .slice none 0 0] (by simp)).two; have n3 := (H.out.mem (w.heap.size + 1) 25 #[.string ⟨#[]⟩, .slice none 0 0] (by simp)).lt)); dsimp only))
  all_goals go_wp2
  all_goals obtain ⟨h1, h2⟩ := put_own (x := .string ⟨#[82, 76, 67]⟩) (y := .slice va 1 vc) H.out.below HO.out (Nat.lt_succ_self _) (Nat.le_succ _)
  all_goals exact bodyPost_ret (ins_end rfl rfl (((H.out.mem (w.heap.size + 1) 25 #[.string ⟨#[]⟩, .slice none 0 0] (by simp)).set 0 _).set 1 _)) rfl ⟨_, rfl, h1, h2⟩
set_option maxHeartbeats 4000000 in
set_option maxRecDepth 100000 in
theorem cb_0_1 (op : Int) (o : Opd) (h0 : 0 ≤ op) (h8 : op < 256) (hx : op / 64 = 0) (hy : op / 8 % 8 = 1) (w : World) : Calls Tryz.prog 50 #[.int .u8 op, .agg #[.int .i64 o.kind, .int .i64 o.reg, .int .i64 o.n]] w (InsOw w ⟨#[82, 82, 67]⟩ [o]) := by
  have HX := Lib.hid (((Fr.start w).new 87 #[.int .i64 o.kind, .int .i64 o.reg, .int .i64 o.n]).new' 25 #[.string ⟨#[]⟩, .slice none 0 0] (b := w.heap.size + 1) (by rw [World.size_alloc]))
  have H := Lib.hid HX.out.drew
  have HA := Lib.hid (HX.out.new' 9 #[.string ⟨#[82, 76, 67]⟩, .string ⟨#[82, 82, 67]⟩, .string ⟨#[82, 76]⟩, .string ⟨#[82, 82]⟩, .string ⟨#[83, 76, 65]⟩, .string ⟨#[83, 82, 65]⟩, .string ⟨#[83, 76, 76]⟩, .string ⟨#[83, 82, 76]⟩] (b := w.heap.size + 2) (by rw [World.size_alloc, World.size_alloc])).drew
  go_enter Tryz.func50, Tryz.ntmps50
  go_upto_region 4 with fail
  obtain ⟨f0, f1, f2, _, _, _⟩ := (H.out.mem w.heap.size 87 #[.int .i64 o.kind, .int .i64 o.reg, .int .i64 o.n] (by simp)).three
  obtain ⟨e0, e1, d0, d1⟩ := (H.out.mem (w.heap.size + 1) 25 #[.string ⟨#[]⟩, .slice none 0 0] (by simp)).two
  have n3 := (H.out.mem (w.heap.size + 1) 25 #[.string ⟨#[]⟩, .slice none 0 0] (by simp)).lt
  obtain ⟨p0, p1, p2, _, _, _⟩ := (HA.out.mem w.heap.size 87 #[.int .i64 o.kind, .int .i64 o.reg, .int .i64 o.n] (by simp)).three
  go_region_law ((go_simp; (first
      | (go_at_call 101; refine (frLo (b := w.heap.size + 1) (t := 25) (cs := #[.string ⟨#[]⟩, .slice none 0 0]) (Lib.hid (HX.out.new' 9 #[.string ⟨#[82, 76, 67]⟩, .string ⟨#[82, 82, 67]⟩, .string ⟨#[82, 76]⟩, .string ⟨#[82, 82]⟩, .string ⟨#[83, 76, 65]⟩, .string ⟨#[83, 82, 65]⟩, .string ⟨#[83, 76, 76]⟩, .string ⟨#[83, 82, 76]⟩] (b := w.heap.size + 2) (by rw [World.size_alloc, World.size_alloc])).drew) (by simp) (one_own _ _)).mono ?_; rintro e w' ⟨va, vc, rfl, HO, Hn⟩; clear f0 f1 f2 e0 e1 d0 d1 n3; clear H; have H := Hn; clear Hn; have HS := Lib.hid (H.out.blk 0 rfl); have s0 := HS.out.cell 1; obtain ⟨f0, f1, f2, _, _, _⟩ := (H.out.mem w.heap.size 87 #[.int .i64 o.kind, .int .i64 o.reg, .int .i64 o.n] (by simp)).three; obtain ⟨e0, e1, d0, d1⟩ := (H.out.mem (w.heap.size + 1) 25 #[.string ⟨#[]⟩, .slice none 0 0] (by simp)).two; have n3 := (H.out.mem (w.heap.size + 1) 25 #[.string ⟨#[]⟩, .slice none 0 0] (by simp)).lt)
      | (go_at_call 101; refine (frLo (b := w.heap.size + 1) (t := 25) (cs := #[.string ⟨#[]⟩, .slice none 0 0]) H (by simp) (one_own _ _)).mono ?_; rintro e w' ⟨va, vc, rfl, HO, Hn⟩; clear f0 f1 f2 e0 e1 d0 d1 n3; clear H; have H := Hn; clear Hn; obtain ⟨f0, f1, f2, _, _, _⟩ := (H.out.mem w.heap.size 87 #[.int .i64 o.kind, .int .i64 o.reg, .int .i64 o.n] (by simp)).three; obtain ⟨e0, e1, d0, d1⟩ := (H.out.mem (w.heap.size + 1) 25 #[.string ⟨#[]⟩, .slice none 0 0] (by simp)).two; have n3 := (H.out.mem (w.heap.size + 1) 25 #[.string ⟨#[]⟩, .slice none 0 0] (by simp)).lt)
      | (go_at_call 97; refine (frIo H (ins_own _ _ _ _ _ HO.out)).mono ?_; rintro e w' ⟨rfl, HOn, Hn⟩; clear f0 f1 f2 e0 e1 d0 d1 n3; clear HO H; have HO := HOn; have H := Hn; clear HOn Hn; obtain ⟨f0, f1, f2, _, _, _⟩ := (H.out.mem w.heap.size 87 #[.int .i64 o.kind, .int .i64 o.reg, .int .i64 o.n] (by simp)).three; obtain ⟨e0, e1, d0, d1⟩ := (H.out.mem (w.heap.size + 1) 25 #[.string ⟨#[]⟩, .slice none 0 0] (by simp)).two; have n3 := (H.out.mem (w.heap.size + 1) 25 #[.string ⟨#[]⟩, .slice none 0 0] (by simp)).lt)
      | (go_at_call 97; refine (frIo (Lib.hid (H.out.alloc _)) (ins_own _ _ _ _ _ (HO.out.below ((Below.refl _ _).alloc (Nat.le_refl _) _)))).mono ?_; rintro e w' ⟨rfl, HOn, Hn⟩; clear f0 f1 f2 e0 e1 d0 d1 n3; clear HO H; have HO := HOn; have H := Hn; clear HOn Hn; obtain ⟨f0, f1, f2, _, _, _⟩ := (H.out.mem w.heap.size 87 #[.int .i64 o.kind, .int .i64 o.reg, .int .i64 o.n] (by simp)).three; obtain ⟨e0, e1, d0, d1⟩ := (H.out.mem (w.heap.size + 1) 25 #[.string ⟨#[]⟩, .slice none 0 0] (by simp)).two; have n3 := (H.out.mem (w.heap.size + 1) 25 #[.string ⟨#[]⟩, .slice none 0 0] (by simp)).lt)); dsimp only))
  all_goals go_wp2
  all_goals obtain ⟨h1, h2⟩ := put_own (x := .string ⟨#[82, 82, 67]⟩) (y := .slice va 1 vc) H.out.below HO.out (Nat.lt_succ_self _) (Nat.le_succ _)
  all_goals exact bodyPost_ret (ins_end rfl rfl (((H.out.mem (w.heap.size + 1) 25 #[.string ⟨#[]⟩, .slice none 0 0] (by simp)).set 0 _).set 1 _)) rfl ⟨_, rfl, h1, h2⟩
set_option maxHeartbeats 4000000 in
set_option maxRecDepth 100000 in
theorem cb_0_2 (op : Int) (o : Opd) (h0 : 0 ≤ op) (h8 : op < 256) (hx : op / 64 = 0) (hy : op / 8 % 8 = 2) (w : World) : Calls Tryz.prog 50 #[.int .u8 op, .agg #[.int .i64 o.kind, .int .i64 o.reg, .int .i64 o.n]] w (InsOw w ⟨#[82, 76]⟩ [o]) := by
  have HX := Lib.hid (((Fr.start w).new 87 #[.int .i64 o.kind, .int .i64 o.reg, .int .i64 o.n]).new' 25 #[.string ⟨#[]⟩, .slice none 0 0] (b := w.heap.size + 1) (by rw [World.size_alloc]))
  have H := Lib.hid HX.out.drew
  have HA := Lib.hid (HX.out.new' 9 #[.string ⟨#[82, 76, 67]⟩, .string ⟨#[82, 82, 67]⟩, .string ⟨#[82, 76]⟩, .string ⟨#[82, 82]⟩, .string ⟨#[83, 76, 65]⟩, .string ⟨#[83, 82, 65]⟩, .string ⟨#[83, 76, 76]⟩, .string ⟨#[83, 82, 76]⟩] (b := w.heap.size + 2) (by rw [World.size_alloc, World.size_alloc])).drew
  go_enter Tryz.func50, Tryz.ntmps50
  go_upto_region 4 with fail
  obtain ⟨f0, f1, f2, _, _, _⟩ := (H.out.mem w.heap.size 87 #[.int .i64 o.kind, .int .i64 o.reg, .int .i64 o.n] (by simp)).three
  obtain ⟨e0, e1, d0, d1⟩ := (H.out.mem (w.heap.size + 1) 25 #[.string ⟨#[]⟩, .slice none 0 0] (by simp)).two
  have n3 := (H.out.mem (w.heap.size + 1) 25 #[.string ⟨#[]⟩, .slice none 0 0] (by simp)).lt
  obtain ⟨p0, p1, p2, _, _, _⟩ := (HA.out.mem w.heap.size 87 #[.int .i64 o.kind, .int .i64 o.reg, .int .i64 o.n] (by simp)).three
  go_region_law ((go_simp; (first
      | (go_at_call 101; refine (frLo (b := w.heap.size + 1) (t := 25) (cs := #[.string ⟨#[]⟩, .slice none 0 0]) (Lib.hid (HX.out.new' 9 #[.string ⟨#[82, 76, 67]⟩, .string ⟨#[82, 82, 67]⟩, .string ⟨#[82, 76]⟩, .string ⟨#[82, 82]⟩, .string ⟨#[83, 76, 65]⟩, .string ⟨#[83, 82, 65]⟩, .string ⟨#[83, 76, 76]⟩, .string ⟨#[83, 82, 76]⟩] (b := w.heap.size + 2) (by rw [World.size_alloc, World.size_alloc])).drew) (by simp) (one_own _ _)).mono ?_; rintro e w' ⟨va, vc, rfl, HO, Hn⟩; clear f0 f1 f2 e0 e1 d0 d1 n3; clear H; have H := Hn; clear Hn; have HS := Lib.hid (H.out.blk 0 rfl); have s0 := HS.out.cell 2; obtain ⟨f0, f1, f2, _, _, _⟩ := (H.out.mem w.heap.size 87 #[.int .i64 o.kind, .int .i64 o.reg, .int .i64 o.n] (by simp)).three; obtain ⟨e0, e1, d0, d1⟩ := (H.out.mem (w.heap.size + 1) 25 #[.string ⟨#[]⟩, .slice none 0 0] (by simp)).two; have n3 := (H.out.mem (w.heap.size + 1) 25 #[.string ⟨#[]⟩, .slice none 0 0] (by simp)).lt)
      | (go_at_call 101; refine (frLo (b := w.heap.size + 1) (t := 25) (cs := #[.string ⟨#[]⟩, .slice none 0 0]) H (by simp) (one_own _ _)).mono ?_; rintro e w' ⟨va, vc, rfl, HO, Hn⟩; clear f0 f1 f2 e0 e1 d0 d1 n3; clear H; have H := Hn; clear Hn; obtain ⟨f0, f1, f2, _, _, _⟩ := (H.out.mem w.heap.size 87 #[.int .i64 o.kind, .int .i64 o.reg, .int .i64 o.n] (by simp)).three; obtain ⟨e0, e1, d0, d1⟩ := (H.out.mem (w.heap.size + 1) 25 #[.string ⟨#[]⟩, .slice none 0 0] (by simp)).two; have n3 := (H.out.mem (w.heap.size + 1) 25 #[.string ⟨#[]⟩, .slice none 0 0] (by simp)).lt)
      | (go_at_call 97; refine (frIo H (ins_own _ _ _ _ _ HO.out)).mono ?_; rintro e w' ⟨rfl, HOn, Hn⟩; clear f0 f1 f2 e0 e1 d0 d1 n3; clear HO H; have HO := HOn; have H := Hn; clear HOn Hn; obtain ⟨f0, f1, f2, _, _, _⟩ := (H.out.mem w.heap.size 87 #[.int .i64 o.kind, .int .i64 o.reg, .int .i64 o.n] (by simp)).three; obtain ⟨e0, e1, d0, d1⟩ := (H.out.mem (w.heap.size + 1) 25 #[.string ⟨#[]⟩, .slice none 0 0] (by simp)).two; have n3 := (H.out.mem (w.heap.size + 1) 25 #[.string ⟨#[]⟩, .slice none 0 0] (by simp)).lt)
      | (go_at_call 97; refine (frIo (Lib.hid (H.out.alloc _)) (ins_own _ _ _ _ _ (HO.out.below ((Below.refl _ _).alloc (Nat.le_refl _) _)))).mono ?_; rintro e w' ⟨rfl, HOn, Hn⟩; clear f0 f1 f2 e0 e1 d0 d1 n3; clear HO H; have HO := HOn; have H := Hn; clear HOn Hn; obtain ⟨f0, f1, f2, _, _, _⟩ := (H.out.mem w.heap.size 87 #[.int .i64 o.kind, .int .i64 o.reg, .int .i64 o.n] (by simp)).three; obtain ⟨e0, e1, d0, d1⟩ := (H.out.mem (w.heap.size + 1) 25 #[.string ⟨#[]⟩, .slice none 0 0] (by simp)).two; have n3 := (H.out.mem (w.heap.size + 1) 25 #[.string ⟨#[]⟩, .slice none 0 0] (by simp)).lt)); dsimp only))
  all_goals go_wp2
  all_goals obtain ⟨h1, h2⟩ := put_own (x := .string ⟨#[82, 76]⟩) (y := .slice va 1 vc) H.out.below HO.out (Nat.lt_succ_self _) (Nat.le_succ _)
  all_goals exact bodyPost_ret (ins_end rfl rfl (((H.out.mem (w.heap.size + 1) 25 #[.string ⟨#[]⟩, .slice none 0 0] (by simp)).set 0 _).set 1 _)) rfl ⟨_, rfl, h1, h2⟩
set_option maxHeartbeats 4000000 in
set_option maxRecDepth 100000 in
theorem cb_0_3 (op : Int) (o : Opd) (h0 : 0 ≤ op) (h8 : op < 256) (hx : op / 64 = 0) (hy : op / 8 % 8 = 3) (w : World) : Calls Tryz.prog 50 #[.int .u8 op, .agg #[.int .i64 o.kind, .int .i64 o.reg, .int .i64 o.n]] w (InsOw w ⟨#[82, 82]⟩ [o]) := by
  have HX := Lib.hid (((Fr.start w).new 87 #[.int .i64 o.kind, .int .i64 o.reg, .int .i64 o.n]).new' 25 #[.string ⟨#[]⟩, .slice none 0 0] (b := w.heap.size + 1) (by rw [World.size_alloc]))
  have H := Lib.hid HX.out.drew
  have HA := Lib.hid (HX.out.new' 9 #[.string ⟨#[82, 76, 67]⟩, .string ⟨#[82, 82, 67]⟩, .string ⟨#[82, 76]⟩, .string ⟨#[82, 82]⟩, .string ⟨#[83, 76, 65]⟩, .string ⟨#[83, 82, 65]⟩, .string ⟨#[83, 76, 76]⟩, .string ⟨#[83, 82, 76]⟩] (b := w.heap.size + 2) (by rw [World.size_alloc, World.size_alloc])).drew
  go_enter Tryz.func50, Tryz.ntmps50
  go_upto_region 4 with fail
  obtain ⟨f0, f1, f2, _, _, _⟩ := (H.out.mem w.heap.size 87 #[.int .i64 o.kind, .int .i64 o.reg, .int .i64 o.n] (by simp)).three
  obtain ⟨e0, e1, d0, d1⟩ := (H.out.mem (w.heap.size + 1) 25 #[.string ⟨#[]⟩, .slice none 0 0] (by simp)).two
  have n3 := (H.out.mem (w.heap.size + 1) 25 #[.string ⟨#[]⟩, .slice none 0 0] (by simp)).lt
  obtain ⟨p0, p1, p2, _, _, _⟩ := (HA.out.mem w.heap.size 87 #[.int .i64 o.kind, .int .i64 o.reg, .int .i64 o.n] (by simp)).three
  go_region_law ((go_simp; (first
      | (go_at_call 101; refine (frLo (b := w.heap.size + 1) (t := 25) (cs := #[.string ⟨#[]⟩, .slice none 0 0]) (Lib.hid (HX.out.new' 9 #[.string ⟨#[82, 76, 67]⟩, .string ⟨#[82, 82, 67]⟩, .string ⟨#[82, 76]⟩, .string ⟨#[82, 82]⟩, .string ⟨#[83, 76, 65]⟩, .string ⟨#[83, 82, 65]⟩, .string ⟨#[83, 76, 76]⟩, .string ⟨#[83, 82, 76]⟩] (b := w.heap.size + 2) (by rw [World.size_alloc, World.size_alloc])).drew) (by simp) (one_own _ _)).mono ?_; rintro e w' ⟨va, vc, rfl, HO, Hn⟩; clear f0 f1 f2 e0 e1 d0 d1 n3; clear H; have H := Hn; clear Hn; have HS := Lib.hid (H.out.blk 0 rfl); have s0 := HS.out.cell 3; obtain ⟨f0, f1, f2, _, _, _⟩ := (H.out.mem w.heap.size 87 #[.int .i64 o.kind, .int .i64 o.reg, .int .i64 o.n] (by simp)).three; obtain ⟨e0, e1, d0, d1⟩ := (H.out.mem (w.heap.size + 1) 25 #[.string ⟨#[]⟩, .slice none 0 0] (by simp)).two; have n3 := (H.out.mem (w.heap.size + 1) 25 #[.string ⟨#[]⟩, .slice none 0 0] (by simp)).lt)
      | (go_at_call 101; refine (frLo (b := w.heap.size + 1) (t := 25) (cs := #[.string ⟨#[]⟩, .slice none 0 0]) H (by simp) (one_own _ _)).mono ?_; rintro e w' ⟨va, vc, rfl, HO, Hn⟩; clear f0 f1 f2 e0 e1 d0 d1 n3; clear H; have H := Hn; clear Hn; obtain ⟨f0, f1, f2, _, _, _⟩ := (H.out.mem w.heap.size 87 #[.int .i64 o.kind, .int .i64 o.reg, .int .i64 o.n] (by simp)).three; obtain ⟨e0, e1, d0, d1⟩ := (H.out.mem (w.heap.size + 1) 25 #[.string ⟨#[]⟩, .slice none 0 0] (by simp)).two; have n3 := (H.out.mem (w.heap.size + 1) 25 #[.string ⟨#[]⟩, .slice none 0 0] (by simp)).lt)
      | (go_at_call 97; refine (frIo H (ins_own _ _ _ _ _ HO.out)).mono ?_; rintro e w' ⟨rfl, HOn, Hn⟩; clear f0 f1 f2 e0 e1 d0 d1 n3; clear HO H; have HO := HOn; have H := Hn; clear HOn Hn; obtain ⟨f0, f1, f2, _, _, _⟩ := (H.out.mem w.heap.size 87 #[.int .i64 o.kind, .int .i64 o.reg, .int .i64 o.n] (by simp)).three; obtain ⟨e0, e1, d0, d1⟩ := (H.out.mem (w.heap.size + 1) 25 #[.string ⟨#[]⟩, .slice none 0 0] (by simp)).two; have n3 := (H.out.mem (w.heap.size + 1) 25 #[.string ⟨#[]⟩, .slice none 0 0] (by simp)).lt)
      | (go_at_call 97; refine (frIo (Lib.hid (H.out.alloc _)) (ins_own _ _ _ _ _ (HO.out.below ((Below.refl _ _).alloc (Nat.le_refl _) _)))).mono ?_; rintro e w' ⟨rfl, HOn, Hn⟩; clear f0 f1 f2 e0 e1 d0 d1 n3; clear HO H; have HO := HOn; have H := Hn; clear HOn Hn; obtain ⟨f0, f1, f2, _, _, _⟩ := (H.out.mem w.heap.size 87 #[.int .i64 o.kind, .int .i64 o.reg, .int .i64 o.n] (by simp)).three; obtain ⟨e0, e1, d0, d1⟩ := (H.out.mem (w.heap.size + 1) 25 #[.string ⟨#[]⟩, .slice none 0 0] (by simp)).two; have n3 := (H.out.mem (w.heap.size + 1) 25 #[.string ⟨#[]⟩, .slice none 0 0] (by simp)).lt)); dsimp only))
  all_goals go_wp2
  all_goals obtain ⟨h1, h2⟩ := put_own (x := .string ⟨#[82, 82]⟩) (y := .slice va 1 vc) H.out.below HO.out (Nat.lt_succ_self _) (Nat.le_succ _)
  all_goals exact bodyPost_ret (ins_end rfl rfl (((H.out.mem (w.heap.size + 1) 25 #[.string ⟨#[]⟩, .slice none 0 0] (by simp)).set 0 _).set 1 _)) rfl ⟨_, rfl, h1, h2⟩
set_option maxHeartbeats 4000000 in
set_option maxRecDepth 100000 in
theorem cb_0_4 (op : Int) (o : Opd) (h0 : 0 ≤ op) (h8 : op < 256) (hx : op / 64 = 0) (hy : op / 8 % 8 = 4) (w : World) : Calls Tryz.prog 50 #[.int .u8 op, .agg #[.int .i64 o.kind, .int .i64 o.reg, .int .i64 o.n]] w (InsOw w ⟨#[83, 76, 65]⟩ [o]) := by
  have HX := Lib.hid (((Fr.start w).new 87 #[.int .i64 o.kind, .int .i64 o.reg, .int .i64 o.n]).new' 25 #[.string ⟨#[]⟩, .slice none 0 0] (b := w.heap.size + 1) (by rw [World.size_alloc]))
  have H := Lib.hid HX.out.drew
  have HA := Lib.hid (HX.out.new' 9 #[.string ⟨#[82, 76, 67]⟩, .string ⟨#[82, 82, 67]⟩, .string ⟨#[82, 76]⟩, .string ⟨#[82, 82]⟩, .string ⟨#[83, 76, 65]⟩, .string ⟨#[83, 82, 65]⟩, .string ⟨#[83, 76, 76]⟩, .string ⟨#[83, 82, 76]⟩] (b := w.heap.size + 2) (by rw [World.size_alloc, World.size_alloc])).drew
  go_enter Tryz.func50, Tryz.ntmps50
  go_upto_region 4 with fail
  obtain ⟨f0, f1, f2, _, _, _⟩ := (H.out.mem w.heap.size 87 #[.int .i64 o.kind, .int .i64 o.reg, .int .i64 o.n] (by simp)).three
  obtain ⟨e0, e1, d0, d1⟩ := (H.out.mem (w.heap.size + 1) 25 #[.string ⟨#[]⟩, .slice none 0 0] (by simp)).two
  have n3 := (H.out.mem (w.heap.size + 1) 25 #[.string ⟨#[]⟩, .slice none 0 0] (by simp)).lt
  obtain ⟨p0, p1, p2, _, _, _⟩ := (HA.out.mem w.heap.size 87 #[.int .i64 o.kind, .int .i64 o.reg, .int .i64 o.n] (by simp)).three
  go_region_law ((go_simp; (first
      | (go_at_call 101; refine (frLo (b := w.heap.size + 1) (t := 25) (cs := #[.string ⟨#[]⟩, .slice none 0 0]) (Lib.hid (HX.out.new' 9 #[.string ⟨#[82, 76, 67]⟩, .string ⟨#[82, 82, 67]⟩, .string ⟨#[82, 76]⟩, .string ⟨#[82, 82]⟩, .string ⟨#[83, 76, 65]⟩, .string ⟨#[83, 82, 65]⟩, .string ⟨#[83, 76, 76]⟩, .string ⟨#[83, 82, 76]⟩] (b := w.heap.size + 2) (by rw [World.size_alloc, World.size_alloc])).drew) (by simp) (one_own _ _)).mono ?_; rintro e w' ⟨va, vc, rfl, HO, Hn⟩; clear f0 f1 f2 e0 e1 d0 d1 n3; clear H; have H := Hn; clear Hn; have HS := Lib.hid (H.out.blk 0 rfl); have s0 := HS.out.cell 4; obtain ⟨f0, f1, f2, _, _, _⟩ := (H.out.mem w.heap.size 87 #[.int .i64 o.kind, .int .i64 o.reg, .int .i64 o.n] (by simp)).three; obtain ⟨e0, e1, d0, d1⟩ := (H.out.mem (w.heap.size + 1) 25 #[.string ⟨#[]⟩, .slice none 0 0] (by simp)).two; have n3 := (H.out.mem (w.heap.size + 1) 25 #[.string ⟨#[]⟩, .slice none 0 0] (by simp)).lt)
      | (go_at_call 101; refine (frLo (b := w.heap.size + 1) (t := 25) (cs := #[.string ⟨#[]⟩, .slice none 0 0]) H (by simp) (one_own _ _)).mono ?_; rintro e w' ⟨va, vc, rfl, HO, Hn⟩; clear f0 f1 f2 e0 e1 d0 d1 n3; clear H; have H := Hn; clear Hn; obtain ⟨f0, f1, f2, _, _, _⟩ := (H.out.mem w.heap.size 87 #[.int .i64 o.kind, .int .i64 o.reg, .int .i64 o.n] (by simp)).three; obtain ⟨e0, e1, d0, d1⟩ := (H.out.mem (w.heap.size + 1) 25 #[.string ⟨#[]⟩, .slice none 0 0] (by simp)).two; have n3 := (H.out.mem (w.heap.size + 1) 25 #[.string ⟨#[]⟩, .slice none 0 0] (by simp)).lt)
      | (go_at_call 97; refine (frIo H (ins_own _ _ _ _ _ HO.out)).mono ?_; rintro e w' ⟨rfl, HOn, Hn⟩; clear f0 f1 f2 e0 e1 d0 d1 n3; clear HO H; have HO := HOn; have H := Hn; clear HOn Hn; obtain ⟨f0, f1, f2, _, _, _⟩ := (H.out.mem w.heap.size 87 #[.int .i64 o.kind, .int .i64 o.reg, .int .i64 o.n] (by simp)).three; obtain ⟨e0, e1, d0, d1⟩ := (H.out.mem (w.heap.size + 1) 25 #[.string ⟨#[]⟩, .slice none 0 0] (by simp)).two; have n3 := (H.out.mem (w.heap.size + 1) 25 #[.string ⟨#[]⟩, .slice none 0 0] (by simp)).lt)
      | (go_at_call 97; refine (frIo (Lib.hid (H.out.alloc _)) (ins_own _ _ _ _ _ (HO.out.below ((Below.refl _ _).alloc (Nat.le_refl _) _)))).mono ?_; rintro e w' ⟨rfl, HOn, Hn⟩; clear f0 f1 f2 e0 e1 d0 d1 n3; clear HO H; have HO := HOn; have H := Hn; clear HOn Hn; obtain ⟨f0, f1, f2, _, _, _⟩ := (H.out.mem w.heap.size 87 #[.int .i64 o.kind, .int .i64 o.reg, .int .i64 o.n] (by simp)).three; obtain ⟨e0, e1, d0, d1⟩ := (H.out.mem (w.heap.size + 1) 25 #[.string ⟨#[]⟩, .slice none 0 0] (by simp)).two; have n3 := (H.out.mem (w.heap.size + 1) 25 #[.string ⟨#[]⟩, .slice none 0 0] (by simp)).lt)); dsimp only))
  all_goals go_wp2
  all_goals obtain ⟨h1, h2⟩ := put_own (x := .string ⟨#[83, 76, 65]⟩) (y := .slice va 1 vc) H.out.below HO.out (Nat.lt_succ_self _) (Nat.le_succ _)
  all_goals exact bodyPost_ret (ins_end rfl rfl (((H.out.mem (w.heap.size + 1) 25 #[.string ⟨#[]⟩, .slice none 0 0] (by simp)).set 0 _).set 1 _)) rfl ⟨_, rfl, h1, h2⟩
set_option maxHeartbeats 4000000 in
set_option maxRecDepth 100000 in
theorem cb_0_5 (op : Int) (o : Opd) (h0 : 0 ≤ op) (h8 : op < 256) (hx : op / 64 = 0) (hy : op / 8 % 8 = 5) (w : World) : Calls Tryz.prog 50 #[.int .u8 op, .agg #[.int .i64 o.kind, .int .i64 o.reg, .int .i64 o.n]] w (InsOw w ⟨#[83, 82, 65]⟩ [o]) := by
  have HX := Lib.hid (((Fr.start w).new 87 #[.int .i64 o.kind, .int .i64 o.reg, .int .i64 o.n]).new' 25 #[.string ⟨#[]⟩, .slice none 0 0] (b := w.heap.size + 1) (by rw [World.size_alloc]))
  have H := Lib.hid HX.out.drew
  have HA := Lib.hid (HX.out.new' 9 #[.string ⟨#[82, 76, 67]⟩, .string ⟨#[82, 82, 67]⟩, .string ⟨#[82, 76]⟩, .string ⟨#[82, 82]⟩, .string ⟨#[83, 76, 65]⟩, .string ⟨#[83, 82, 65]⟩, .string ⟨#[83, 76, 76]⟩, .string ⟨#[83, 82, 76]⟩] (b := w.heap.size + 2) (by rw [World.size_alloc, World.size_alloc])).drew
  go_enter Tryz.func50, Tryz.ntmps50
  go_upto_region 4 with fail
  obtain ⟨f0, f1, f2, _, _, _⟩ := (H.out.mem w.heap.size 87 #[.int .i64 o.kind, .int .i64 o.reg, .int .i64 o.n] (by simp)).three
  obtain ⟨e0, e1, d0, d1⟩ := (H.out.mem (w.heap.size + 1) 25 #[.string ⟨#[]⟩, .slice none 0 0] (by simp)).two
  have n3 := (H.out.mem (w.heap.size + 1) 25 #[.string ⟨#[]⟩, .slice none 0 0] (by simp)).lt
  obtain ⟨p0, p1, p2, _, _, _⟩ := (HA.out.mem w.heap.size 87 #[.int .i64 o.kind, .int .i64 o.reg, .int .i64 o.n] (by simp)).three
  go_region_law ((go_simp; (first
      | (go_at_call 101; refine (frLo (b := w.heap.size + 1) (t := 25) (cs := #[.string ⟨#[]⟩, .slice none 0 0]) (Lib.hid (HX.out.new' 9 #[.string ⟨#[82, 76, 67]⟩, .string ⟨#[82, 82, 67]⟩, .string ⟨#[82, 76]⟩, .string ⟨#[82, 82]⟩, .string ⟨#[83, 76, 65]⟩, .string ⟨#[83, 82, 65]⟩, .string ⟨#[83, 76, 76]⟩, .string ⟨#[83, 82, 76]⟩] (b := w.heap.size + 2) (by rw [World.size_alloc, World.size_alloc])).drew) (by simp) (one_own _ _)).mono ?_; rintro e w' ⟨va, vc, rfl, HO, Hn⟩; clear f0 f1 f2 e0 e1 d0 d1 n3; clear H; have H := Hn; clear Hn; have HS := Lib.hid (H.out.blk 0 rfl); have s0 := HS.out.cell 5; obtain ⟨f0, f1, f2, _, _, _⟩ := (H.out.mem w.heap.size 87 #[.int .i64 o.kind, .int .i64 o.reg, .int .i64 o.n] (by simp)).three; obtain ⟨e0, e1, d0, d1⟩ := (H.out.mem (w.heap.size + 1) 25 #[.string ⟨#[]⟩, .slice none 0 0] (by simp)).two; have n3 := (H.out.mem (w.heap.size + 1) 25 #[.string ⟨#[]⟩, .slice none 0 0] (by simp)).lt)
      | (go_at_call 101; refine (frLo (b := w.heap.size + 1) (t := 25) (cs := #[.string ⟨#[]⟩, .slice none 0 0]) H (by simp) (one_own _ _)).mono ?_; rintro e w' ⟨va, vc, rfl, HO, Hn⟩; clear f0 f1 f2 e0 e1 d0 d1 n3; clear H; have H := Hn; clear Hn; obtain ⟨f0, f1, f2, _, _, _⟩ := (H.out.mem w.heap.size 87 #[.int .i64 o.kind, .int .i64 o.reg, .int .i64 o.n] (by simp)).three; obtain ⟨e0, e1, d0, d1⟩ := (H.out.mem (w.heap.size + 1) 25 #[.string ⟨#[]⟩, .slice none 0 0] (by simp)).two; have n3 := (H.out.mem (w.heap.size + 1) 25 #[.string ⟨#[]⟩, .slice none 0 0] (by simp)).lt)
      | (go_at_call 97; refine (frIo H (ins_own _ _ _ _ _ HO.out)).mono ?_; rintro e w' ⟨rfl, HOn, Hn⟩; clear f0 f1 f2 e0 e1 d0 d1 n3; clear HO H; have HO := HOn; have H := Hn; clear HOn Hn; obtain ⟨f0, f1, f2, _, _, _⟩ := (H.out.mem w.heap.size 87 #[.int .i64 o.kind, .int .i64 o.reg, .int .i64 o.n] (by simp)).three; obtain ⟨e0, e1, d0, d1⟩ := (H.out.mem (w.heap.size + 1) 25 #[.string ⟨#[]⟩, .slice none 0 0] (by simp)).two; have n3 := (H.out.mem (w.heap.size + 1) 25 #[.string ⟨#[]⟩, .slice none 0 0] (by simp)).lt)
      | (go_at_call 97; refine (frIo (Lib.hid (H.out.alloc _)) (ins_own _ _ _ _ _ (HO.out.below ((Below.refl _ _).alloc (Nat.le_refl _) _)))).mono ?_; rintro e w' ⟨rfl, HOn, Hn⟩; clear f0 f1 f2 e0 e1 d0 d1 n3; clear HO H; have HO := HOn; have H := Hn; clear HOn Hn; obtain ⟨f0, f1, f2, _, _, _⟩ := (H.out.mem w.heap.size 87 #[.int .i64 o.kind, .int .i64 o.reg, .int .i64 o.n] (by simp)).three; obtain ⟨e0, e1, d0, d1⟩ := (H.out.mem (w.heap.size + 1) 25 #[.string ⟨#[]⟩, .slice none 0 0] (by simp)).two; have n3 := (H.out.mem (w.heap.size + 1) 25 #[.string ⟨#[]⟩, .slice none 0 0] (by simp)).lt)); dsimp only))
  all_goals go_wp2
  all_goals obtain ⟨h1, h2⟩ := put_own (x := .string ⟨#[83, 82, 65]⟩) (y := .slice va 1 vc) H.out.below HO.out (Nat.lt_succ_self _) (Nat.le_succ _)
  all_goals exact bodyPost_ret (ins_end rfl rfl (((H.out.mem (w.heap.size + 1) 25 #[.string ⟨#[]⟩, .slice none 0 0] (by simp)).set 0 _).set 1 _)) rfl ⟨_, rfl, h1, h2⟩
set_option maxHeartbeats 4000000 in
set_option maxRecDepth 100000 in
theorem cb_0_6 (op : Int) (o : Opd) (h0 : 0 ≤ op) (h8 : op < 256) (hx : op / 64 = 0) (hy : op / 8 % 8 = 6) (w : World) : Calls Tryz.prog 50 #[.int .u8 op, .agg #[.int .i64 o.kind, .int .i64 o.reg, .int .i64 o.n]] w (InsOw w ⟨#[83, 76, 76]⟩ [o]) := by
  have HX := Lib.hid (((Fr.start w).new 87 #[.int .i64 o.kind, .int .i64 o.reg, .int .i64 o.n]).new' 25 #[.string ⟨#[]⟩, .slice none 0 0] (b := w.heap.size + 1) (by rw [World.size_alloc]))
  have H := Lib.hid HX.out.drew
  have HA := Lib.hid (HX.out.new' 9 #[.string ⟨#[82, 76, 67]⟩, .string ⟨#[82, 82, 67]⟩, .string ⟨#[82, 76]⟩, .string ⟨#[82, 82]⟩, .string ⟨#[83, 76, 65]⟩, .string ⟨#[83, 82, 65]⟩, .string ⟨#[83, 76, 76]⟩, .string ⟨#[83, 82, 76]⟩] (b := w.heap.size + 2) (by rw [World.size_alloc, World.size_alloc])).drew
  go_enter Tryz.func50, Tryz.ntmps50
  go_upto_region 4 with fail
  obtain ⟨f0, f1, f2, _, _, _⟩ := (H.out.mem w.heap.size 87 #[.int .i64 o.kind, .int .i64 o.reg, .int .i64 o.n] (by simp)).three
  obtain ⟨e0, e1, d0, d1⟩ := (H.out.mem (w.heap.size + 1) 25 #[.string ⟨#[]⟩, .slice none 0 0] (by simp)).two
  have n3 := (H.out.mem (w.heap.size + 1) 25 #[.string ⟨#[]⟩, .slice none 0 0] (by simp)).lt
  obtain ⟨p0, p1, p2, _, _, _⟩ := (HA.out.mem w.heap.size 87 #[.int .i64 o.kind, .int .i64 o.reg, .int .i64 o.n] (by simp)).three
  go_region_law ((go_simp; (first
      | (go_at_call 101; refine (frLo (b := w.heap.size + 1) (t := 25) (cs := #[.string ⟨#[]⟩, .slice none 0 0]) (Lib.hid (HX.out.new' 9 #[.string ⟨#[82, 76, 67]⟩, .string ⟨#[82, 82, 67]⟩, .string ⟨#[82, 76]⟩, .string ⟨#[82, 82]⟩, .string ⟨#[83, 76, 65]⟩, .string ⟨#[83, 82, 65]⟩, .string ⟨#[83, 76, 76]⟩, .string ⟨#[83, 82, 76]⟩] (b := w.heap.size + 2) (by rw [World.size_alloc, World.size_alloc])).drew) (by simp) (one_own _ _)).mono ?_; rintro e w' ⟨va, vc, rfl, HO, Hn⟩; clear f0 f1 f2 e0 e1 d0 d1 n3; clear H; have H := Hn; clear Hn; have HS := Lib.hid (H.out.blk 0 rfl); have s0 := HS.out.cell 6; obtain ⟨f0, f1, f2, _, _, _⟩ := (H.out.mem w.heap.size 87 #[.int .i64 o.kind, .int .i64 o.reg, .int .i64 o.n] (by simp)).three; obtain ⟨e0, e1, d0, d1⟩ := (H.out.mem (w.heap.size + 1) 25 #[.string ⟨#[]⟩, .slice none 0 0] (by simp)).two; have n3 := (H.out.mem (w.heap.size + 1) 25 #[.string ⟨#[]⟩, .slice none 0 0] (by simp)).lt)
      | (go_at_call 101; refine (frLo (b := w.heap.size + 1) (t := 25) (cs := #[.string ⟨#[]⟩, .slice none 0 0]) H (by simp) (one_own _ _)).mono ?_; rintro e w' ⟨va, vc, rfl, HO, Hn⟩; clear f0 f1 f2 e0 e1 d0 d1 n3; clear H; have H := Hn; clear Hn; obtain ⟨f0, f1, f2, _, _, _⟩ := (H.out.mem w.heap.size 87 #[.int .i64 o.kind, .int .i64 o.reg, .int .i64 o.n] (by simp)).three; obtain ⟨e0, e1, d0, d1⟩ := (H.out.mem (w.heap.size + 1) 25 #[.string ⟨#[]⟩, .slice none 0 0] (by simp)).two; have n3 := (H.out.mem (w.heap.size + 1) 25 #[.string ⟨#[]⟩, .slice none 0 0] (by simp)).lt)
      | (go_at_call 97; refine (frIo H (ins_own _ _ _ _ _ HO.out)).mono ?_; rintro e w' ⟨rfl, HOn, Hn⟩; clear f0 f1 f2 e0 e1 d0 d1 n3; clear HO H; have HO := HOn; have H := Hn; clear HOn Hn; obtain ⟨f0, f1, f2, _, _, _⟩ := (H.out.mem w.heap.size 87 #[.int .i64 o.kind, .int .i64 o.reg, .int .i64 o.n] (by simp)).three; obtain ⟨e0, e1, d0, d1⟩ := (H.out.mem (w.heap.size + 1) 25 #[.string ⟨#[]⟩, .slice none 0 0] (by simp)).two; have n3 := (H.out.mem (w.heap.size + 1) 25 #[.string ⟨#[]⟩, .slice none 0 0] (by simp)).lt)
      | (go_at_call 97; refine (frIo (Lib.hid (H.out.alloc _)) (ins_own _ _ _ _ _ (HO.out.below ((Below.refl _ _).alloc (Nat.le_refl _) _)))).mono ?_; rintro e w' ⟨rfl, HOn, Hn⟩; clear f0 f1 f2 e0 e1 d0 d1 n3; clear HO H; have HO := HOn; have H := Hn; clear HOn Hn; obtain ⟨f0, f1, f2, _, _, _⟩ := (H.out.mem w.heap.size 87 #[.int .i64 o.kind, .int .i64 o.reg, .int .i64 o.n] (by simp)).three; obtain ⟨e0, e1, d0, d1⟩ := (H.out.mem (w.heap.size + 1) 25 #[.string ⟨#[]⟩, .slice none 0 0] (by simp)).two; have n3 := (H.out.mem (w.heap.size + 1) 25 #[.string ⟨#[]⟩, .slice none 0 0] (by simp)).lt)); dsimp only))
  all_goals go_wp2
  all_goals obtain ⟨h1, h2⟩ := put_own (x := .string ⟨#[83, 76, 76]⟩) (y := .slice va 1 vc) H.out.below HO.out (Nat.lt_succ_self _) (Nat.le_succ _)
  all_goals exact bodyPost_ret (ins_end rfl rfl (((H.out.mem (w.heap.size + 1) 25 #[.string ⟨#[]⟩, .slice none 0 0] (by simp)).set 0 _).set 1 _)) rfl ⟨_, rfl, h1, h2⟩
set_option maxHeartbeats 4000000 in
set_option maxRecDepth 100000 in
theorem cb_0_7 (op : Int) (o : Opd) (h0 : 0 ≤ op) (h8 : op < 256) (hx : op / 64 = 0) (hy : op / 8 % 8 = 7) (w : World) : Calls Tryz.prog 50 #[.int .u8 op, .agg #[.int .i64 o.kind, .int .i64 o.reg, .int .i64 o.n]] w (InsOw w ⟨#[83, 82, 76]⟩ [o]) := by
  have HX := Lib.hid (((Fr.start w).new 87 #[.int .i64 o.kind, .int .i64 o.reg, .int .i64 o.n]).new' 25 #[.string ⟨#[]⟩, .slice none 0 0] (b := w.heap.size + 1) (by rw [World.size_alloc]))
  have H := Lib.hid HX.out.drew
  have HA := Lib.hid (HX.out.new' 9 #[.string ⟨#[82, 76, 67]⟩, .string ⟨#[82, 82, 67]⟩, .string ⟨#[82, 76]⟩, .string ⟨#[82, 82]⟩, .string ⟨#[83, 76, 65]⟩, .string ⟨#[83, 82, 65]⟩, .string ⟨#[83, 76, 76]⟩, .string ⟨#[83, 82, 76]⟩] (b := w.heap.size + 2) (by rw [World.size_alloc, World.size_alloc])).drew
  go_enter Tryz.func50, Tryz.ntmps50
  go_upto_region 4 with fail
  obtain ⟨f0, f1, f2, _, _, _⟩ := (H.out.mem w.heap.size 87 #[.int .i64 o.kind, .int .i64 o.reg, .int .i64 o.n] (by simp)).three
  obtain ⟨e0, e1, d0, d1⟩ := (H.out.mem (w.heap.size + 1) 25 #[.string ⟨#[]⟩, .slice none 0 0] (by simp)).two
  have n3 := (H.out.mem (w.heap.size + 1) 25 #[.string ⟨#[]⟩, .slice none 0 0] (by simp)).lt
  obtain ⟨p0, p1, p2, _, _, _⟩ := (HA.out.mem w.heap.size 87 #[.int .i64 o.kind, .int .i64 o.reg, .int .i64 o.n] (by simp)).three
  go_region_law ((go_simp; (first
      | (go_at_call 101; refine (frLo (b := w.heap.size + 1) (t := 25) (cs := #[.string ⟨#[]⟩, .slice none 0 0]) (Lib.hid (HX.out.new' 9 #[.string ⟨#[82, 76, 67]⟩, .string ⟨#[82, 82, 67]⟩, .string ⟨#[82, 76]⟩, .string ⟨#[82, 82]⟩, .string ⟨#[83, 76, 65]⟩, .string ⟨#[83, 82, 65]⟩, .string ⟨#[83, 76, 76]⟩, .string ⟨#[83, 82, 76]⟩] (b := w.heap.size + 2) (by rw [World.size_alloc, World.size_alloc])).drew) (by simp) (one_own _ _)).mono ?_; rintro e w' ⟨va, vc, rfl, HO, Hn⟩; clear f0 f1 f2 e0 e1 d0 d1 n3; clear H; have H := Hn; clear Hn; have HS := Lib.hid (H.out.blk 0 rfl); have s0 := HS.out.cell 7; obtain ⟨f0, f1, f2, _, _, _⟩ := (H.out.mem w.heap.size 87 #[.int .i64 o.kind, .int .i64 o.reg, .int .i64 o.n] (by simp)).three; obtain ⟨e0, e1, d0, d1⟩ := (H.out.mem (w.heap.size + 1) 25 #[.string ⟨#[]⟩, .slice none 0 0] (by simp)).two; have n3 := (H.out.mem (w.heap.size + 1) 25 #[.string ⟨#[]⟩, .slice none 0 0] (by simp)).lt)
      | (go_at_call 101; refine (frLo (b := w.heap.size + 1) (t := 25) (cs := #[.string ⟨#[]⟩, .slice none 0 0]) H (by simp) (one_own _ _)).mono ?_; rintro e w' ⟨va, vc, rfl, HO, Hn⟩; clear f0 f1 f2 e0 e1 d0 d1 n3; clear H; have H := Hn; clear Hn; obtain ⟨f0, f1, f2, _, _, _⟩ := (H.out.mem w.heap.size 87 #[.int .i64 o.kind, .int .i64 o.reg, .int .i64 o.n] (by simp)).three; obtain ⟨e0, e1, d0, d1⟩ := (H.out.mem (w.heap.size + 1) 25 #[.string ⟨#[]⟩, .slice none 0 0] (by simp)).two; have n3 := (H.out.mem (w.heap.size + 1) 25 #[.string ⟨#[]⟩, .slice none 0 0] (by simp)).lt)
      | (go_at_call 97; refine (frIo H (ins_own _ _ _ _ _ HO.out)).mono ?_; rintro e w' ⟨rfl, HOn, Hn⟩; clear f0 f1 f2 e0 e1 d0 d1 n3; clear HO H; have HO := HOn; have H := Hn; clear HOn Hn; obtain ⟨f0, f1, f2, _, _, _⟩ := (H.out.mem w.heap.size 87 #[.int .i64 o.kind, .int .i64 o.reg, .int .i64 o.n] (by simp)).three; obtain ⟨e0, e1, d0, d1⟩ := (H.out.mem (w.heap.size + 1) 25 #[.string ⟨#[]⟩, .slice none 0 0] (by simp)).two; have n3 := (H.out.mem (w.heap.size + 1) 25 #[.string ⟨#[]⟩, .slice none 0 0] (by simp)).lt)
      | (go_at_call 97; refine (frIo (Lib.hid (H.out.alloc _)) (ins_own _ _ _ _ _ (HO.out.below ((Below.refl _ _).alloc (Nat.le_refl _) _)))).mono ?_; rintro e w' ⟨rfl, HOn, Hn⟩; clear f0 f1 f2 e0 e1 d0 d1 n3; clear HO H; have HO := HOn; have H := Hn; clear HOn Hn; obtain ⟨f0, f1, f2, _, _, _⟩ := (H.out.mem w.heap.size 87 #[.int .i64 o.kind, .int .i64 o.reg, .int .i64 o.n] (by simp)).three; obtain ⟨e0, e1, d0, d1⟩ := (H.out.mem (w.heap.size + 1) 25 #[.string ⟨#[]⟩, .slice none 0 0] (by simp)).two; have n3 := (H.out.mem (w.heap.size + 1) 25 #[.string ⟨#[]⟩, .slice none 0 0] (by simp)).lt)); dsimp only))
  all_goals go_wp2
  all_goals obtain ⟨h1, h2⟩ := put_own (x := .string ⟨#[83, 82, 76]⟩) (y := .slice va 1 vc) H.out.below HO.out (Nat.lt_succ_self _) (Nat.le_succ _)
  all_goals exact bodyPost_ret (ins_end rfl rfl (((H.out.mem (w.heap.size + 1) 25 #[.string ⟨#[]⟩, .slice none 0 0] (by simp)).set 0 _).set 1 _)) rfl ⟨_, rfl, h1, h2⟩
set_option maxHeartbeats 4000000 in
set_option maxRecDepth 100000 in
theorem cb_1 (op y : Int) (o : Opd) (h0 : 0 ≤ op) (h8 : op < 256) (hx : op / 64 = 1) (hy : op / 8 % 8 = y) (w : World) : Calls Tryz.prog 50 #[.int .u8 op, .agg #[.int .i64 o.kind, .int .i64 o.reg, .int .i64 o.n]] w (InsOw w ⟨#[66, 73, 84]⟩ [immO y, o]) := by
  have H := Lib.hid (((Fr.start w).new 87 #[.int .i64 o.kind, .int .i64 o.reg, .int .i64 o.n]).new' 25 #[.string ⟨#[]⟩, .slice none 0 0] (b := w.heap.size + 1) (by rw [World.size_alloc])).drew
  go_enter Tryz.func50, Tryz.ntmps50
  go_upto_region 6 with fail
  obtain ⟨f0, f1, f2, _, _, _⟩ := (H.out.blk 1 rfl).three
  obtain ⟨e0, e1, d0, d1⟩ := (H.out.blk 0 rfl).two
  go_region_held3 (fun w' => w'.cell? ⟨w.heap.size, 0, none⟩ = some (.int .i64 o.kind) ∧ w'.cell? ⟨w.heap.size, 1, none⟩ = some (.int .i64 o.reg) ∧ w'.cell? ⟨w.heap.size, 2, none⟩ = some (.int .i64 o.n)) (go_keep)
    (first
      | (go_at_call 102; refine (frO H (imm9_any _ _)).mono ?_; rintro e w' ⟨rfl, H⟩; obtain ⟨f0, f1, f2, _, _, _⟩ := (H.out.blk 1 rfl).three)
      | (go_at_call 98; refine (frLo (b := w.heap.size + 1) (t := 25) (cs := #[.string ⟨#[]⟩, .slice none 0 0]) H (by simp) (two_own _ _ _)).mono ?_; rintro e w' ⟨va, vc, rfl, HO, H⟩; obtain ⟨f0, f1, f2, _, _, _⟩ := (H.out.blk 1 rfl).three)
      | (go_at_call 97; refine (frIo H (ins_own _ _ _ _ _ HO.out)).mono ?_; rintro e w' ⟨rfl, HO, H⟩; obtain ⟨e0, e1, d0, d1⟩ := (H.out.blk 0 rfl).two; obtain ⟨f0, f1, f2, _, _, _⟩ := (H.out.blk 1 rfl).three))
  go_wp2
  obtain ⟨h1, h2⟩ := put_own (x := .string ⟨#[66, 73, 84]⟩) (y := .slice va 2 vc) H.out.below HO.out (Nat.lt_succ_self _) (Nat.le_succ _)
  exact bodyPost_ret (ins_end rfl rfl (((H.out.blk 0 rfl).set 0 _).set 1 _)) rfl ⟨_, rfl, h1, h2⟩
set_option maxHeartbeats 4000000 in
set_option maxRecDepth 100000 in
theorem cb_2 (op y : Int) (o : Opd) (h0 : 0 ≤ op) (h8 : op < 256) (hx : op / 64 = 2) (hy : op / 8 % 8 = y) (w : World) : Calls Tryz.prog 50 #[.int .u8 op, .agg #[.int .i64 o.kind, .int .i64 o.reg, .int .i64 o.n]] w (InsOw w ⟨#[82, 69, 83]⟩ [immO y, o]) := by
  have H := Lib.hid (((Fr.start w).new 87 #[.int .i64 o.kind, .int .i64 o.reg, .int .i64 o.n]).new' 25 #[.string ⟨#[]⟩, .slice none 0 0] (b := w.heap.size + 1) (by rw [World.size_alloc])).drew
  go_enter Tryz.func50, Tryz.ntmps50
  go_upto_region 8 with fail
  obtain ⟨f0, f1, f2, _, _, _⟩ := (H.out.blk 1 rfl).three
  obtain ⟨e0, e1, d0, d1⟩ := (H.out.blk 0 rfl).two
  go_region_held3 (fun w' => w'.cell? ⟨w.heap.size, 0, none⟩ = some (.int .i64 o.kind) ∧ w'.cell? ⟨w.heap.size, 1, none⟩ = some (.int .i64 o.reg) ∧ w'.cell? ⟨w.heap.size, 2, none⟩ = some (.int .i64 o.n)) (go_keep)
    (first
      | (go_at_call 102; refine (frO H (imm9_any _ _)).mono ?_; rintro e w' ⟨rfl, H⟩; obtain ⟨f0, f1, f2, _, _, _⟩ := (H.out.blk 1 rfl).three)
      | (go_at_call 98; refine (frLo (b := w.heap.size + 1) (t := 25) (cs := #[.string ⟨#[]⟩, .slice none 0 0]) H (by simp) (two_own _ _ _)).mono ?_; rintro e w' ⟨va, vc, rfl, HO, H⟩; obtain ⟨f0, f1, f2, _, _, _⟩ := (H.out.blk 1 rfl).three)
      | (go_at_call 97; refine (frIo H (ins_own _ _ _ _ _ HO.out)).mono ?_; rintro e w' ⟨rfl, HO, H⟩; obtain ⟨e0, e1, d0, d1⟩ := (H.out.blk 0 rfl).two; obtain ⟨f0, f1, f2, _, _, _⟩ := (H.out.blk 1 rfl).three))
  go_wp2
  obtain ⟨h1, h2⟩ := put_own (x := .string ⟨#[82, 69, 83]⟩) (y := .slice va 2 vc) H.out.below HO.out (Nat.lt_succ_self _) (Nat.le_succ _)
  exact bodyPost_ret (ins_end rfl rfl (((H.out.blk 0 rfl).set 0 _).set 1 _)) rfl ⟨_, rfl, h1, h2⟩
set_option maxHeartbeats 4000000 in
set_option maxRecDepth 100000 in
theorem cb_3 (op y : Int) (o : Opd) (h0 : 0 ≤ op) (h8 : op < 256) (hx : op / 64 = 3) (hy : op / 8 % 8 = y) (w : World) : Calls Tryz.prog 50 #[.int .u8 op, .agg #[.int .i64 o.kind, .int .i64 o.reg, .int .i64 o.n]] w (InsOw w ⟨#[83, 69, 84]⟩ [immO y, o]) := by
  have H := Lib.hid (((Fr.start w).new 87 #[.int .i64 o.kind, .int .i64 o.reg, .int .i64 o.n]).new' 25 #[.string ⟨#[]⟩, .slice none 0 0] (b := w.heap.size + 1) (by rw [World.size_alloc])).drew
  go_enter Tryz.func50, Tryz.ntmps50
  go_upto_region 9 with fail
  obtain ⟨f0, f1, f2, _, _, _⟩ := (H.out.blk 1 rfl).three
  obtain ⟨e0, e1, d0, d1⟩ := (H.out.blk 0 rfl).two
  go_region_held3 (fun w' => w'.cell? ⟨w.heap.size, 0, none⟩ = some (.int .i64 o.kind) ∧ w'.cell? ⟨w.heap.size, 1, none⟩ = some (.int .i64 o.reg) ∧ w'.cell? ⟨w.heap.size, 2, none⟩ = some (.int .i64 o.n)) (go_keep)
    (first
      | (go_at_call 102; refine (frO H (imm9_any _ _)).mono ?_; rintro e w' ⟨rfl, H⟩; obtain ⟨f0, f1, f2, _, _, _⟩ := (H.out.blk 1 rfl).three)
      | (go_at_call 98; refine (frLo (b := w.heap.size + 1) (t := 25) (cs := #[.string ⟨#[]⟩, .slice none 0 0]) H (by simp) (two_own _ _ _)).mono ?_; rintro e w' ⟨va, vc, rfl, HO, H⟩; obtain ⟨f0, f1, f2, _, _, _⟩ := (H.out.blk 1 rfl).three)
      | (go_at_call 97; refine (frIo H (ins_own _ _ _ _ _ HO.out)).mono ?_; rintro e w' ⟨rfl, HO, H⟩; obtain ⟨e0, e1, d0, d1⟩ := (H.out.blk 0 rfl).two; obtain ⟨f0, f1, f2, _, _, _⟩ := (H.out.blk 1 rfl).three))
  go_wp2
  obtain ⟨h1, h2⟩ := put_own (x := .string ⟨#[83, 69, 84]⟩) (y := .slice va 2 vc) H.out.below HO.out (Nat.lt_succ_self _) (Nat.le_succ _)
  exact bodyPost_ret (ins_end rfl rfl (((H.out.blk 0 rfl).set 0 _).set 1 _)) rfl ⟨_, rfl, h1, h2⟩
/-- the instruction of an opcode behind CB -/
def cbF (op : Int) (o : Opd) : ByteArray × List Opd :=
  if op / 64 = 0 then (if op / 8 % 8 = 0 then ⟨#[82, 76, 67]⟩ else if op / 8 % 8 = 1 then ⟨#[82, 82, 67]⟩ else if op / 8 % 8 = 2 then ⟨#[82, 76]⟩ else if op / 8 % 8 = 3 then ⟨#[82, 82]⟩ else if op / 8 % 8 = 4 then ⟨#[83, 76, 65]⟩ else if op / 8 % 8 = 5 then ⟨#[83, 82, 65]⟩ else if op / 8 % 8 = 6 then ⟨#[83, 76, 76]⟩ else ⟨#[83, 82, 76]⟩, [o]) else if op / 64 = 1 then (⟨#[66, 73, 84]⟩, [immO (op / 8 % 8), o]) else if op / 64 = 2 then (⟨#[82, 69, 83]⟩, [immO (op / 8 % 8), o]) else (⟨#[83, 69, 84]⟩, [immO (op / 8 % 8), o])
theorem cb9_any (op : Int) (o : Opd) (h0 : 0 ≤ op) (h8 : op < 256) (w : World) : Calls Tryz.prog 50 #[.int .u8 op, .agg #[.int .i64 o.kind, .int .i64 o.reg, .int .i64 o.n]] w (InsOw w (cbF op o).1 (cbF op o).2) := by
  have hx : op / 64 = 0 ∨ op / 64 = 1 ∨ op / 64 = 2 ∨ op / 64 = 3 := by omega
  rcases hx with hx | hx | hx | hx
  · have hy : op / 8 % 8 = 0 ∨ op / 8 % 8 = 1 ∨ op / 8 % 8 = 2 ∨ op / 8 % 8 = 3 ∨ op / 8 % 8 = 4 ∨ op / 8 % 8 = 5 ∨ op / 8 % 8 = 6 ∨ op / 8 % 8 = 7 := by omega
    rcases hy with hy | hy | hy | hy | hy | hy | hy | hy
    · have e : cbF op o = (⟨#[82, 76, 67]⟩, [o]) := by unfold cbF; rw [if_pos hx, hy, if_pos rfl]
      rw [e]
      exact cb_0_0 op o h0 h8 hx hy w
    · have e : cbF op o = (⟨#[82, 82, 67]⟩, [o]) := by unfold cbF; rw [if_pos hx, hy, if_neg (show ¬ (1 : Int) = 0 by omega), if_pos rfl]
      rw [e]
      exact cb_0_1 op o h0 h8 hx hy w
    · have e : cbF op o = (⟨#[82, 76]⟩, [o]) := by unfold cbF; rw [if_pos hx, hy, if_neg (show ¬ (2 : Int) = 0 by omega), if_neg (show ¬ (2 : Int) = 1 by omega), if_pos rfl]
      rw [e]
      exact cb_0_2 op o h0 h8 hx hy w
    · have e : cbF op o = (⟨#[82, 82]⟩, [o]) := by unfold cbF; rw [if_pos hx, hy, if_neg (show ¬ (3 : Int) = 0 by omega), if_neg (show ¬ (3 : Int) = 1 by omega), if_neg (show ¬ (3 : Int) = 2 by omega), if_pos rfl]
      rw [e]
      exact cb_0_3 op o h0 h8 hx hy w
    · have e : cbF op o = (⟨#[83, 76, 65]⟩, [o]) := by unfold cbF; rw [if_pos hx, hy, if_neg (show ¬ (4 : Int) = 0 by omega), if_neg (show ¬ (4 : Int) = 1 by omega), if_neg (show ¬ (4 : Int) = 2 by omega), if_neg (show ¬ (4 : Int) = 3 by omega), if_pos rfl]
      rw [e]
      exact cb_0_4 op o h0 h8 hx hy w
    · have e : cbF op o = (⟨#[83, 82, 65]⟩, [o]) := by unfold cbF; rw [if_pos hx, hy, if_neg (show ¬ (5 : Int) = 0 by omega), if_neg (show ¬ (5 : Int) = 1 by omega), if_neg (show ¬ (5 : Int) = 2 by omega), if_neg (show ¬ (5 : Int) = 3 by omega), if_neg (show ¬ (5 : Int) = 4 by omega), if_pos rfl]
      rw [e]
      exact cb_0_5 op o h0 h8 hx hy w
    · have e : cbF op o = (⟨#[83, 76, 76]⟩, [o]) := by unfold cbF; rw [if_pos hx, hy, if_neg (show ¬ (6 : Int) = 0 by omega), if_neg (show ¬ (6 : Int) = 1 by omega), if_neg (show ¬ (6 : Int) = 2 by omega), if_neg (show ¬ (6 : Int) = 3 by omega), if_neg (show ¬ (6 : Int) = 4 by omega), if_neg (show ¬ (6 : Int) = 5 by omega), if_pos rfl]
      rw [e]
      exact cb_0_6 op o h0 h8 hx hy w
    · have e : cbF op o = (⟨#[83, 82, 76]⟩, [o]) := by unfold cbF; rw [if_pos hx, hy, if_neg (show ¬ (7 : Int) = 0 by omega), if_neg (show ¬ (7 : Int) = 1 by omega), if_neg (show ¬ (7 : Int) = 2 by omega), if_neg (show ¬ (7 : Int) = 3 by omega), if_neg (show ¬ (7 : Int) = 4 by omega), if_neg (show ¬ (7 : Int) = 5 by omega), if_neg (show ¬ (7 : Int) = 6 by omega)]
      rw [e]
      exact cb_0_7 op o h0 h8 hx hy w
  · have e : cbF op o = (⟨#[66, 73, 84]⟩, [immO (op / 8 % 8), o]) := by unfold cbF; rw [if_neg (show ¬ op / 64 = 0 by omega), if_pos hx]
    rw [e]
    exact cb_1 op _ o h0 h8 hx rfl w
  · have e : cbF op o = (⟨#[82, 69, 83]⟩, [immO (op / 8 % 8), o]) := by unfold cbF; rw [if_neg (show ¬ op / 64 = 0 by omega), if_neg (show ¬ op / 64 = 1 by omega), if_pos hx]
    rw [e]
    exact cb_2 op _ o h0 h8 hx rfl w
  · have e : cbF op o = (⟨#[83, 69, 84]⟩, [immO (op / 8 % 8), o]) := by unfold cbF; rw [if_neg (show ¬ op / 64 = 0 by omega), if_neg (show ¬ op / 64 = 1 by omega), if_neg (show ¬ op / 64 = 2 by omega)]
    rw [e]
    exact cb_3 op _ o h0 h8 hx rfl w
end Go.Proofs.YtlepicdjnbbndaaGreatDoor
