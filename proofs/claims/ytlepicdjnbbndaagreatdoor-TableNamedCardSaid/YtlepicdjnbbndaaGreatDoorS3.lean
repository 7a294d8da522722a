/-
  The reference's instructions of x = 0. Conditions: the bits.
-/
import Derived.Test.YtlepicdjnbbndaaGreatDoorSA
namespace Go.Proofs.YtlepicdjnbbndaaGreatDoor
open Go.RowKit Go.Shelf Go.Sort

/-- what a function that makes an instruction and its letters leaves -/
def InsE (w : World) (s : ByteArray) (l : List Opd) (ex : ByteArray) (e : Ending) (w' : World) : Prop := ∃ v, e = .returned (.tuple #[.agg #[.string s, v], .string ex]) ∧ OpdOwn w' (fun b => w.heap.size ≤ b) v l ∧ Below w.heap.size w w'
theorem insE_end {fn : Func} {p u : Tmp} (h : fn.results = #[.cell p 25, .tmp u]) {tmps : Array Value} {w' : World} {s v : Value} {g : Nat} (hp : tmps.getD p undef = .pointer (some ⟨g, 0, none⟩))
    (hg : Blk w' g 25 #[s, v]) : (results fn tmps).run Tryz.prog w' = .ok (.tuple #[.agg #[s, v], tmps.getD u undef]) w' :=
  results_row_tmp h tmps w' g 25 _ (0, 0) _ hp hg Tryz.underlying25 rfl (by kernel_rfl)
set_option maxHeartbeats 4000000 in
set_option maxRecDepth 100000 in
theorem low_0_0  (w : World) : Calls Tryz.prog 96 #[.int .i64 0, .int .i64 0] w (InsE w ⟨#[78, 79, 80]⟩ [] ⟨#[]⟩) := by
  have H0 := Lib.hid ((Fr.start w).new' 25 #[.string ⟨#[]⟩, .slice none 0 0] rfl)
  go_enter Tryz.func96, Tryz.ntmps96
  go_wp2_with fail
  refine (rp_any 0 3 _).mono ?_
  rintro e w1 ⟨rfl, hb⟩
  have LT1 := Lib.hid (((H0.out.next hb).blk 0 rfl).lt)
  have H1 := Lib.hid ((H0.out.next hb).new' 87 #[.int .i64 (rpF 0 3).kind, .int .i64 (rpF 0 3).reg, .int .i64 (rpF 0 3).n] rfl)
  clear hb
  go_wp2_with fail
  refine (rp_any 2 3 _).mono ?_
  rintro e w2 ⟨rfl, hb⟩
  have LT2 := Lib.hid (((H1.out.next hb).blk 0 rfl).lt)
  have H := Lib.hid ((H1.out.next hb).new' 87 #[.int .i64 (rpF 2 3).kind, .int .i64 (rpF 2 3).reg, .int .i64 (rpF 2 3).n] rfl)
  obtain ⟨e0, e1, d0, d1⟩ := (H.out.blk 2 rfl).two
  clear hb
  go_wp2_with (first
    | (go_at_call 97; refine (frI H (ins9_any _ none 0 0 _ (opdOwn_none _ (fun k => w.heap.size < k)))).mono ?_; rintro e w' ⟨rfl, HO, H⟩; obtain ⟨e0, e1, d0, d1⟩ := (H.out.blk 2 rfl).two))
  obtain ⟨h1, h2⟩ := put_ins (x := .string ⟨#[78, 79, 80]⟩) (y := .slice none 0 0) H.out.below HO.out (fun k hk => hk) (Nat.le_refl _)
  exact bodyPost_ret (insE_end rfl rfl (((H.out.blk 2 rfl).set 0 _).set 1 _)) rfl ⟨_, rfl, h1, h2⟩
set_option maxHeartbeats 4000000 in
set_option maxRecDepth 100000 in
theorem low_0_1  (w : World) : Calls Tryz.prog 96 #[.int .i64 1, .int .i64 0] w (InsE w ⟨#[69, 88]⟩ [rpF 3 4, rpF 3 7] ⟨#[]⟩) := by
  have H0 := Lib.hid ((Fr.start w).new' 25 #[.string ⟨#[]⟩, .slice none 0 0] rfl)
  go_enter Tryz.func96, Tryz.ntmps96
  go_wp2_with fail
  refine (rp_any 0 3 _).mono ?_
  rintro e w1 ⟨rfl, hb⟩
  have LT1 := Lib.hid (((H0.out.next hb).blk 0 rfl).lt)
  have H1 := Lib.hid ((H0.out.next hb).new' 87 #[.int .i64 (rpF 0 3).kind, .int .i64 (rpF 0 3).reg, .int .i64 (rpF 0 3).n] rfl)
  clear hb
  go_wp2_with fail
  refine (rp_any 2 3 _).mono ?_
  rintro e w2 ⟨rfl, hb⟩
  have LT2 := Lib.hid (((H1.out.next hb).blk 0 rfl).lt)
  have H := Lib.hid ((H1.out.next hb).new' 87 #[.int .i64 (rpF 2 3).kind, .int .i64 (rpF 2 3).reg, .int .i64 (rpF 2 3).n] rfl)
  obtain ⟨e0, e1, d0, d1⟩ := (H.out.blk 2 rfl).two
  clear hb
  go_wp2_with (first
    | (go_at_call 103; refine (frO H (rp_any _ _ _)).mono ?_; rintro e w' ⟨rfl, H⟩)
    | (go_at_call 98; refine (frL H 2 rfl (two_any _ _ _)).mono ?_; rintro e w' ⟨va, vc, rfl, HO, H⟩)
    | (go_at_call 97; refine (frI H (ins9_any _ _ _ _ _ HO.out)).mono ?_; rintro e w' ⟨rfl, HO, H⟩; obtain ⟨e0, e1, d0, d1⟩ := (H.out.blk 2 rfl).two))
  obtain ⟨h1, h2⟩ := put_ins (x := .string ⟨#[69, 88]⟩) (y := .slice va 2 vc) H.out.below HO.out (fun k hk => hk) (Nat.le_refl _)
  exact bodyPost_ret (insE_end rfl rfl (((H.out.blk 2 rfl).set 0 _).set 1 _)) rfl ⟨_, rfl, h1, h2⟩
set_option maxHeartbeats 4000000 in
set_option maxRecDepth 100000 in
theorem low_0_2  (w : World) : Calls Tryz.prog 96 #[.int .i64 2, .int .i64 0] w (InsE w ⟨#[68, 74, 78, 90]⟩ [relO] ⟨#[101]⟩) := by
  have H0 := Lib.hid ((Fr.start w).new' 25 #[.string ⟨#[]⟩, .slice none 0 0] rfl)
  go_enter Tryz.func96, Tryz.ntmps96
  go_wp2_with fail
  refine (rp_any 1 3 _).mono ?_
  rintro e w1 ⟨rfl, hb⟩
  have LT1 := Lib.hid (((H0.out.next hb).blk 0 rfl).lt)
  have H1 := Lib.hid ((H0.out.next hb).new' 87 #[.int .i64 (rpF 1 3).kind, .int .i64 (rpF 1 3).reg, .int .i64 (rpF 1 3).n] rfl)
  clear hb
  go_wp2_with fail
  refine (rp_any 2 3 _).mono ?_
  rintro e w2 ⟨rfl, hb⟩
  have LT2 := Lib.hid (((H1.out.next hb).blk 0 rfl).lt)
  have H := Lib.hid ((H1.out.next hb).new' 87 #[.int .i64 (rpF 2 3).kind, .int .i64 (rpF 2 3).reg, .int .i64 (rpF 2 3).n] rfl)
  obtain ⟨e0, e1, d0, d1⟩ := (H.out.blk 2 rfl).two
  clear hb
  go_wp2_with (first
    | (go_at_call 152; refine (frO H (rel9_any _)).mono ?_; rintro e w' ⟨rfl, H⟩)
    | (go_at_call 101; refine (frL H 2 rfl (one_any _ _)).mono ?_; rintro e w' ⟨va, vc, rfl, HO, H⟩)
    | (go_at_call 97; refine (frI H (ins9_any _ _ _ _ _ HO.out)).mono ?_; rintro e w' ⟨rfl, HO, H⟩; obtain ⟨e0, e1, d0, d1⟩ := (H.out.blk 2 rfl).two))
  obtain ⟨h1, h2⟩ := put_ins (x := .string ⟨#[68, 74, 78, 90]⟩) (y := .slice va 1 vc) H.out.below HO.out (fun k hk => hk) (Nat.le_refl _)
  exact bodyPost_ret (insE_end rfl rfl (((H.out.blk 2 rfl).set 0 _).set 1 _)) rfl ⟨_, rfl, h1, h2⟩
set_option maxHeartbeats 4000000 in
set_option maxRecDepth 100000 in
theorem low_0_3  (w : World) : Calls Tryz.prog 96 #[.int .i64 3, .int .i64 0] w (InsE w ⟨#[74, 82]⟩ [relO] ⟨#[101]⟩) := by
  have H0 := Lib.hid ((Fr.start w).new' 25 #[.string ⟨#[]⟩, .slice none 0 0] rfl)
  go_enter Tryz.func96, Tryz.ntmps96
  go_wp2_with fail
  refine (rp_any 1 3 _).mono ?_
  rintro e w1 ⟨rfl, hb⟩
  have LT1 := Lib.hid (((H0.out.next hb).blk 0 rfl).lt)
  have H1 := Lib.hid ((H0.out.next hb).new' 87 #[.int .i64 (rpF 1 3).kind, .int .i64 (rpF 1 3).reg, .int .i64 (rpF 1 3).n] rfl)
  clear hb
  go_wp2_with fail
  refine (rp_any 2 3 _).mono ?_
  rintro e w2 ⟨rfl, hb⟩
  have LT2 := Lib.hid (((H1.out.next hb).blk 0 rfl).lt)
  have H := Lib.hid ((H1.out.next hb).new' 87 #[.int .i64 (rpF 2 3).kind, .int .i64 (rpF 2 3).reg, .int .i64 (rpF 2 3).n] rfl)
  obtain ⟨e0, e1, d0, d1⟩ := (H.out.blk 2 rfl).two
  clear hb
  go_wp2_with (first
    | (go_at_call 152; refine (frO H (rel9_any _)).mono ?_; rintro e w' ⟨rfl, H⟩)
    | (go_at_call 101; refine (frL H 2 rfl (one_any _ _)).mono ?_; rintro e w' ⟨va, vc, rfl, HO, H⟩)
    | (go_at_call 97; refine (frI H (ins9_any _ _ _ _ _ HO.out)).mono ?_; rintro e w' ⟨rfl, HO, H⟩; obtain ⟨e0, e1, d0, d1⟩ := (H.out.blk 2 rfl).two))
  obtain ⟨h1, h2⟩ := put_ins (x := .string ⟨#[74, 82]⟩) (y := .slice va 1 vc) H.out.below HO.out (fun k hk => hk) (Nat.le_refl _)
  exact bodyPost_ret (insE_end rfl rfl (((H.out.blk 2 rfl).set 0 _).set 1 _)) rfl ⟨_, rfl, h1, h2⟩
set_option maxHeartbeats 4000000 in
set_option maxRecDepth 100000 in
theorem low_0_4 (y : Int) (h4 : 4 ≤ y) (h8 : y < 8) (w : World) : Calls Tryz.prog 96 #[.int .i64 y, .int .i64 0] w (InsE w ⟨#[74, 82]⟩ [ccO (y - 4), relO] ⟨#[101]⟩) := by
  have H0 := Lib.hid ((Fr.start w).new' 25 #[.string ⟨#[]⟩, .slice none 0 0] rfl)
  go_enter Tryz.func96, Tryz.ntmps96
  go_wp2_with fail
  refine (rp_any (y / 2) 3 _).mono ?_
  rintro e w1 ⟨rfl, hb⟩
  have LT1 := Lib.hid (((H0.out.next hb).blk 0 rfl).lt)
  have H1 := Lib.hid ((H0.out.next hb).new' 87 #[.int .i64 (rpF (y / 2) 3).kind, .int .i64 (rpF (y / 2) 3).reg, .int .i64 (rpF (y / 2) 3).n] rfl)
  clear hb
  go_wp2_with fail
  refine (rp_any 2 3 _).mono ?_
  rintro e w2 ⟨rfl, hb⟩
  have LT2 := Lib.hid (((H1.out.next hb).blk 0 rfl).lt)
  have H := Lib.hid ((H1.out.next hb).new' 87 #[.int .i64 (rpF 2 3).kind, .int .i64 (rpF 2 3).reg, .int .i64 (rpF 2 3).n] rfl)
  obtain ⟨e0, e1, d0, d1⟩ := (H.out.blk 2 rfl).two
  clear hb
  go_wp2_with (first
    | (go_at_call 153; refine (frO H (cc9_any _ _)).mono ?_; rintro e w' ⟨rfl, H⟩)
    | (go_at_call 152; refine (frO H (rel9_any _)).mono ?_; rintro e w' ⟨rfl, H⟩)
    | (go_at_call 98; refine (frL H 2 rfl (two_any _ _ _)).mono ?_; rintro e w' ⟨va, vc, rfl, HO, H⟩)
    | (go_at_call 97; refine (frI H (ins9_any _ _ _ _ _ HO.out)).mono ?_; rintro e w' ⟨rfl, HO, H⟩; obtain ⟨e0, e1, d0, d1⟩ := (H.out.blk 2 rfl).two))
  obtain ⟨h1, h2⟩ := put_ins (x := .string ⟨#[74, 82]⟩) (y := .slice va 2 vc) H.out.below HO.out (fun k hk => hk) (Nat.le_refl _)
  exact bodyPost_ret (insE_end rfl rfl (((H.out.blk 2 rfl).set 0 _).set 1 _)) rfl ⟨_, rfl, h1, h2⟩
set_option maxHeartbeats 4000000 in
set_option maxRecDepth 100000 in
theorem low_1_0 (y : Int) (h0 : 0 ≤ y) (h8 : y < 8) (hq : y % 2 = 0) (w : World) : Calls Tryz.prog 96 #[.int .i64 y, .int .i64 1] w (InsE w ⟨#[76, 68]⟩ [rpF (y / 2) 3, immO 0] ⟨#[119]⟩) := by
  have H0 := Lib.hid ((Fr.start w).new' 25 #[.string ⟨#[]⟩, .slice none 0 0] rfl)
  go_enter Tryz.func96, Tryz.ntmps96
  go_wp2_with fail
  refine (rp_any (y / 2) 3 _).mono ?_
  rintro e w1 ⟨rfl, hb⟩
  have LT1 := Lib.hid (((H0.out.next hb).blk 0 rfl).lt)
  have H1 := Lib.hid ((H0.out.next hb).new' 87 #[.int .i64 (rpF (y / 2) 3).kind, .int .i64 (rpF (y / 2) 3).reg, .int .i64 (rpF (y / 2) 3).n] rfl)
  clear hb
  go_wp2_with fail
  refine (rp_any 2 3 _).mono ?_
  rintro e w2 ⟨rfl, hb⟩
  have LT2 := Lib.hid (((H1.out.next hb).blk 0 rfl).lt)
  have H := Lib.hid ((H1.out.next hb).new' 87 #[.int .i64 (rpF 2 3).kind, .int .i64 (rpF 2 3).reg, .int .i64 (rpF 2 3).n] rfl)
  obtain ⟨e0, e1, d0, d1⟩ := (H.out.blk 2 rfl).two
  obtain ⟨f0, f1, f2, _, _, _⟩ := (H.out.blk 1 rfl).three
  clear hb
  go_upto_region 18 with fail
  have HX := H
  have H := Lib.hid H.out.drew
  have n1 : ¬ w1.heap.size = w.heap.size := by have := LT1.out; omega
  have n2 : ¬ w.heap.size = w1.heap.size := fun e => n1 e.symm
  go_region_held3 (fun w' => w'.cell? ⟨w1.heap.size, 0, none⟩ = some (.int .i64 (rpF (y / 2) 3).kind) ∧ w'.cell? ⟨w1.heap.size, 1, none⟩ = some (.int .i64 (rpF (y / 2) 3).reg) ∧ w'.cell? ⟨w1.heap.size, 2, none⟩ = some (.int .i64 (rpF (y / 2) 3).n)) (go_keep)
    (first
      | (go_at_call 103; refine (frO H (rp_any _ _ _)).mono ?_; rintro e w' ⟨rfl, H⟩; obtain ⟨f0, f1, f2, _, _, _⟩ := (H.out.blk 1 rfl).three)
      | (go_at_call 102; refine (frO H (imm9_any _ _)).mono ?_; rintro e w' ⟨rfl, H⟩; obtain ⟨f0, f1, f2, _, _, _⟩ := (H.out.blk 1 rfl).three)
      | (go_at_call 98; refine (frL H 2 rfl (two_any _ _ _)).mono ?_; rintro e w' ⟨va, vc, rfl, HO, H⟩; obtain ⟨f0, f1, f2, _, _, _⟩ := (H.out.blk 1 rfl).three)
      | (go_at_call 97; refine (frI H (ins9_any _ _ _ _ _ HO.out)).mono ?_; rintro e w' ⟨rfl, HO, H⟩; obtain ⟨e0, e1, d0, d1⟩ := (H.out.blk 2 rfl).two; obtain ⟨f0, f1, f2, _, _, _⟩ := (H.out.blk 1 rfl).three))
  go_wp2
  obtain ⟨h1, h2⟩ := put_ins (x := .string ⟨#[76, 68]⟩) (y := .slice va 2 vc) H.out.below HO.out (fun k hk => hk) (Nat.le_refl _)
  exact bodyPost_ret (insE_end rfl rfl (((H.out.blk 2 rfl).set 0 _).set 1 _)) rfl ⟨_, rfl, h1, h2⟩
set_option maxHeartbeats 4000000 in
set_option maxRecDepth 100000 in
theorem low_1_1 (y : Int) (h0 : 0 ≤ y) (h8 : y < 8) (hq : y % 2 = 1) (w : World) : Calls Tryz.prog 96 #[.int .i64 y, .int .i64 1] w (InsE w ⟨#[65, 68, 68]⟩ [rpF 2 3, rpF (y / 2) 3] ⟨#[]⟩) := by
  have H0 := Lib.hid ((Fr.start w).new' 25 #[.string ⟨#[]⟩, .slice none 0 0] rfl)
  go_enter Tryz.func96, Tryz.ntmps96
  go_wp2_with fail
  refine (rp_any (y / 2) 3 _).mono ?_
  rintro e w1 ⟨rfl, hb⟩
  have LT1 := Lib.hid (((H0.out.next hb).blk 0 rfl).lt)
  have H1 := Lib.hid ((H0.out.next hb).new' 87 #[.int .i64 (rpF (y / 2) 3).kind, .int .i64 (rpF (y / 2) 3).reg, .int .i64 (rpF (y / 2) 3).n] rfl)
  clear hb
  go_wp2_with fail
  refine (rp_any 2 3 _).mono ?_
  rintro e w2 ⟨rfl, hb⟩
  have LT2 := Lib.hid (((H1.out.next hb).blk 0 rfl).lt)
  have H := Lib.hid ((H1.out.next hb).new' 87 #[.int .i64 (rpF 2 3).kind, .int .i64 (rpF 2 3).reg, .int .i64 (rpF 2 3).n] rfl)
  obtain ⟨e0, e1, d0, d1⟩ := (H.out.blk 2 rfl).two
  obtain ⟨f0, f1, f2, _, _, _⟩ := (H.out.blk 1 rfl).three
  obtain ⟨g0, g1, g2, _, _, _⟩ := (H.out.blk 0 rfl).three
  clear hb
  go_wp2_with (first
    | (go_at_call 103; refine (frO H (rp_any _ _ _)).mono ?_; rintro e w' ⟨rfl, H⟩)
    | (go_at_call 98; refine (frL H 2 rfl (two_any _ _ _)).mono ?_; rintro e w' ⟨va, vc, rfl, HO, H⟩)
    | (go_at_call 97; refine (frI H (ins9_any _ _ _ _ _ HO.out)).mono ?_; rintro e w' ⟨rfl, HO, H⟩; obtain ⟨e0, e1, d0, d1⟩ := (H.out.blk 2 rfl).two))
  obtain ⟨h1, h2⟩ := put_ins (x := .string ⟨#[65, 68, 68]⟩) (y := .slice va 2 vc) H.out.below HO.out (fun k hk => hk) (Nat.le_refl _)
  exact bodyPost_ret (insE_end rfl rfl (((H.out.blk 2 rfl).set 0 _).set 1 _)) rfl ⟨_, rfl, h1, h2⟩
set_option maxHeartbeats 4000000 in
set_option maxRecDepth 100000 in
theorem low_2_0a (y : Int) (h0 : 0 ≤ y) (h4 : y < 4) (hq : y % 2 = 0) (w : World) : Calls Tryz.prog 96 #[.int .i64 y, .int .i64 2] w (InsE w ⟨#[76, 68]⟩ [indO (y / 2), accO] ⟨#[]⟩) := by
  have H0 := Lib.hid ((Fr.start w).new' 25 #[.string ⟨#[]⟩, .slice none 0 0] rfl)
  go_enter Tryz.func96, Tryz.ntmps96
  go_wp2_with fail
  refine (rp_any (y / 2) 3 _).mono ?_
  rintro e w1 ⟨rfl, hb⟩
  have LT1 := Lib.hid (((H0.out.next hb).blk 0 rfl).lt)
  have H1 := Lib.hid ((H0.out.next hb).new' 87 #[.int .i64 (rpF (y / 2) 3).kind, .int .i64 (rpF (y / 2) 3).reg, .int .i64 (rpF (y / 2) 3).n] rfl)
  clear hb
  go_wp2_with fail
  refine (rp_any 2 3 _).mono ?_
  rintro e w2 ⟨rfl, hb⟩
  have LT2 := Lib.hid (((H1.out.next hb).blk 0 rfl).lt)
  have H := Lib.hid ((H1.out.next hb).new' 87 #[.int .i64 (rpF 2 3).kind, .int .i64 (rpF 2 3).reg, .int .i64 (rpF 2 3).n] rfl)
  obtain ⟨e0, e1, d0, d1⟩ := (H.out.blk 2 rfl).two
  clear hb
  have HP := Lib.hid (H.out.new' 87 #[.int .i64 0, .int .i64 0, .int .i64 0] (b := w2.heap.size + 1) (by rw [World.size_alloc]))
  have l1 := LT1.out
  have l2 := LT2.out
  go_wp2_with fail
  refine (acc9_any _).mono ?_
  rintro e w3 ⟨rfl, hb⟩
  have l3 := ((HP.out.next hb).blk 0 rfl).lt
  have H := Lib.hid ((HP.out.next hb).new' 87 #[.int .i64 accO.kind, .int .i64 accO.reg, .int .i64 accO.n] rfl)
  clear hb e0 e1 d0 d1
  go_wp2_with fail
  refine (ind9_any (y / 2) _).mono ?_
  rintro e w4 ⟨rfl, hb⟩
  have H := Lib.hid ((H.out.next hb).sub (M := (w2.heap.size + 1, 87, #[.int .i64 0, .int .i64 0, .int .i64 0]) :: (w3.heap.size, 87, #[.int .i64 accO.kind, .int .i64 accO.reg, .int .i64 accO.n]) :: [(w2.heap.size, 87, #[.int .i64 (rpF 2 3).kind, .int .i64 (rpF 2 3).reg, .int .i64 (rpF 2 3).n]), (w1.heap.size, 87, #[.int .i64 (rpF (y / 2) 3).kind, .int .i64 (rpF (y / 2) 3).reg, .int .i64 (rpF (y / 2) 3).n]), (w.heap.size, 25, #[.string ⟨#[]⟩, .slice none 0 0])]) (by simp))
  obtain ⟨f0, f1, f2, x0, x1, x2⟩ := (H.out.blk 0 rfl).three
  have H := Lib.hid (H.out.set3 (by omega) (by simp; omega) (.int .i64 (indO (y / 2)).kind) (.int .i64 (indO (y / 2)).reg) (.int .i64 (indO (y / 2)).n))
  clear hb
  obtain ⟨z0, z1, z2, _, _, _⟩ := (H.out.blk 0 rfl).three
  obtain ⟨y0, y1, y2, _, _, _⟩ := (H.out.blk 1 rfl).three
  go_wp2_with (first
    | (go_at_call 104; refine (frO H (ind9_any _ _)).mono ?_; rintro e w' ⟨rfl, H⟩)
    | (go_at_call 106; refine (frO H (acc9_any _)).mono ?_; rintro e w' ⟨rfl, H⟩)
    | (go_at_call 98; refine (frL H 4 rfl (two_any _ _ _)).mono ?_; rintro e w' ⟨va, vc, rfl, HO, H⟩)
    | (go_at_call 97; refine (frI H (ins9_any _ _ _ _ _ HO.out)).mono ?_; rintro e w' ⟨rfl, HO, H⟩; obtain ⟨e0, e1, d0, d1⟩ := (H.out.blk 4 rfl).two))
  obtain ⟨h1, h2⟩ := put_ins (x := .string ⟨#[76, 68]⟩) (y := .slice va 2 vc) H.out.below HO.out (fun k hk => hk) (Nat.le_refl _)
  exact bodyPost_ret (insE_end rfl rfl (((H.out.blk 4 rfl).set 0 _).set 1 _)) rfl ⟨_, rfl, h1, h2⟩
set_option maxHeartbeats 4000000 in
set_option maxRecDepth 100000 in
theorem low_2_0b (y : Int) (h0 : 4 ≤ y) (h4 : y < 6) (hq : y % 2 = 0) (w : World) : Calls Tryz.prog 96 #[.int .i64 y, .int .i64 2] w (InsE w ⟨#[76, 68]⟩ [memO, rpF 2 3] ⟨#[119]⟩) := by
  have H0 := Lib.hid ((Fr.start w).new' 25 #[.string ⟨#[]⟩, .slice none 0 0] rfl)
  go_enter Tryz.func96, Tryz.ntmps96
  go_wp2_with fail
  refine (rp_any (y / 2) 3 _).mono ?_
  rintro e w1 ⟨rfl, hb⟩
  have LT1 := Lib.hid (((H0.out.next hb).blk 0 rfl).lt)
  have H1 := Lib.hid ((H0.out.next hb).new' 87 #[.int .i64 (rpF (y / 2) 3).kind, .int .i64 (rpF (y / 2) 3).reg, .int .i64 (rpF (y / 2) 3).n] rfl)
  clear hb
  go_wp2_with fail
  refine (rp_any 2 3 _).mono ?_
  rintro e w2 ⟨rfl, hb⟩
  have LT2 := Lib.hid (((H1.out.next hb).blk 0 rfl).lt)
  have H := Lib.hid ((H1.out.next hb).new' 87 #[.int .i64 (rpF 2 3).kind, .int .i64 (rpF 2 3).reg, .int .i64 (rpF 2 3).n] rfl)
  obtain ⟨e0, e1, d0, d1⟩ := (H.out.blk 2 rfl).two
  clear hb
  have HP := Lib.hid (H.out.new' 87 #[.int .i64 0, .int .i64 0, .int .i64 0] (b := w2.heap.size + 1) (by rw [World.size_alloc]))
  have l1 := LT1.out
  have l2 := LT2.out
  go_wp2_with fail
  refine (acc9_any _).mono ?_
  rintro e w3 ⟨rfl, hb⟩
  have l3 := ((HP.out.next hb).blk 0 rfl).lt
  have H := Lib.hid ((HP.out.next hb).new' 87 #[.int .i64 accO.kind, .int .i64 accO.reg, .int .i64 accO.n] rfl)
  clear hb e0 e1 d0 d1
  go_wp2_with fail
  refine (mem9_any _).mono ?_
  rintro e w4 ⟨rfl, hb⟩
  have H := Lib.hid ((H.out.next hb).sub (M := (w2.heap.size + 1, 87, #[.int .i64 0, .int .i64 0, .int .i64 0]) :: (w3.heap.size, 87, #[.int .i64 accO.kind, .int .i64 accO.reg, .int .i64 accO.n]) :: [(w2.heap.size, 87, #[.int .i64 (rpF 2 3).kind, .int .i64 (rpF 2 3).reg, .int .i64 (rpF 2 3).n]), (w1.heap.size, 87, #[.int .i64 (rpF (y / 2) 3).kind, .int .i64 (rpF (y / 2) 3).reg, .int .i64 (rpF (y / 2) 3).n]), (w.heap.size, 25, #[.string ⟨#[]⟩, .slice none 0 0])]) (by simp))
  obtain ⟨f0, f1, f2, x0, x1, x2⟩ := (H.out.blk 0 rfl).three
  have H := Lib.hid (H.out.set3 (by omega) (by simp; omega) (.int .i64 memO.kind) (.int .i64 memO.reg) (.int .i64 memO.n))
  clear hb
  obtain ⟨g0, g1, g2, _, _, _⟩ := (H.out.blk 2 rfl).three
  obtain ⟨a0, a1, a2, b0, b1, b2⟩ := (H.out.blk 1 rfl).three
  have H := Lib.hid ((H.out.sub (M := (w3.heap.size, 87, #[.int .i64 accO.kind, .int .i64 accO.reg, .int .i64 accO.n]) :: (w2.heap.size + 1, 87, #[.int .i64 memO.kind, .int .i64 memO.reg, .int .i64 memO.n]) :: [(w2.heap.size, 87, #[.int .i64 (rpF 2 3).kind, .int .i64 (rpF 2 3).reg, .int .i64 (rpF 2 3).n]), (w1.heap.size, 87, #[.int .i64 (rpF (y / 2) 3).kind, .int .i64 (rpF (y / 2) 3).reg, .int .i64 (rpF (y / 2) 3).n]), (w.heap.size, 25, #[.string ⟨#[]⟩, .slice none 0 0])]) (by simp)).set3 (by omega) (by simp; omega) (.int .i64 (rpF 2 3).kind) (.int .i64 (rpF 2 3).reg) (.int .i64 (rpF 2 3).n))
  obtain ⟨z0, z1, z2, _, _, _⟩ := (H.out.blk 0 rfl).three
  obtain ⟨y0, y1, y2, _, _, _⟩ := (H.out.blk 1 rfl).three
  go_wp2_with (first
    | (go_at_call 103; refine (frO H (rp_any _ _ _)).mono ?_; rintro e w' ⟨rfl, H⟩)
    | (go_at_call 105; refine (frO H (mem9_any _)).mono ?_; rintro e w' ⟨rfl, H⟩)
    | (go_at_call 98; refine (frL H 4 rfl (two_any _ _ _)).mono ?_; rintro e w' ⟨va, vc, rfl, HO, H⟩)
    | (go_at_call 97; refine (frI H (ins9_any _ _ _ _ _ HO.out)).mono ?_; rintro e w' ⟨rfl, HO, H⟩; obtain ⟨e0, e1, d0, d1⟩ := (H.out.blk 4 rfl).two))
  obtain ⟨h1, h2⟩ := put_ins (x := .string ⟨#[76, 68]⟩) (y := .slice va 2 vc) H.out.below HO.out (fun k hk => hk) (Nat.le_refl _)
  exact bodyPost_ret (insE_end rfl rfl (((H.out.blk 4 rfl).set 0 _).set 1 _)) rfl ⟨_, rfl, h1, h2⟩
set_option maxHeartbeats 4000000 in
set_option maxRecDepth 100000 in
theorem low_2_0c (y : Int) (h0 : 6 ≤ y) (h4 : y < 8) (hq : y % 2 = 0) (w : World) : Calls Tryz.prog 96 #[.int .i64 y, .int .i64 2] w (InsE w ⟨#[76, 68]⟩ [memO, accO] ⟨#[119]⟩) := by
  have H0 := Lib.hid ((Fr.start w).new' 25 #[.string ⟨#[]⟩, .slice none 0 0] rfl)
  go_enter Tryz.func96, Tryz.ntmps96
  go_wp2_with fail
  refine (rp_any (y / 2) 3 _).mono ?_
  rintro e w1 ⟨rfl, hb⟩
  have LT1 := Lib.hid (((H0.out.next hb).blk 0 rfl).lt)
  have H1 := Lib.hid ((H0.out.next hb).new' 87 #[.int .i64 (rpF (y / 2) 3).kind, .int .i64 (rpF (y / 2) 3).reg, .int .i64 (rpF (y / 2) 3).n] rfl)
  clear hb
  go_wp2_with fail
  refine (rp_any 2 3 _).mono ?_
  rintro e w2 ⟨rfl, hb⟩
  have LT2 := Lib.hid (((H1.out.next hb).blk 0 rfl).lt)
  have H := Lib.hid ((H1.out.next hb).new' 87 #[.int .i64 (rpF 2 3).kind, .int .i64 (rpF 2 3).reg, .int .i64 (rpF 2 3).n] rfl)
  obtain ⟨e0, e1, d0, d1⟩ := (H.out.blk 2 rfl).two
  clear hb
  have HP := Lib.hid (H.out.new' 87 #[.int .i64 0, .int .i64 0, .int .i64 0] (b := w2.heap.size + 1) (by rw [World.size_alloc]))
  have l1 := LT1.out
  have l2 := LT2.out
  go_wp2_with fail
  refine (acc9_any _).mono ?_
  rintro e w3 ⟨rfl, hb⟩
  have l3 := ((HP.out.next hb).blk 0 rfl).lt
  have H := Lib.hid ((HP.out.next hb).new' 87 #[.int .i64 accO.kind, .int .i64 accO.reg, .int .i64 accO.n] rfl)
  clear hb e0 e1 d0 d1
  go_wp2_with fail
  refine (mem9_any _).mono ?_
  rintro e w4 ⟨rfl, hb⟩
  have H := Lib.hid ((H.out.next hb).sub (M := (w2.heap.size + 1, 87, #[.int .i64 0, .int .i64 0, .int .i64 0]) :: (w3.heap.size, 87, #[.int .i64 accO.kind, .int .i64 accO.reg, .int .i64 accO.n]) :: [(w2.heap.size, 87, #[.int .i64 (rpF 2 3).kind, .int .i64 (rpF 2 3).reg, .int .i64 (rpF 2 3).n]), (w1.heap.size, 87, #[.int .i64 (rpF (y / 2) 3).kind, .int .i64 (rpF (y / 2) 3).reg, .int .i64 (rpF (y / 2) 3).n]), (w.heap.size, 25, #[.string ⟨#[]⟩, .slice none 0 0])]) (by simp))
  obtain ⟨f0, f1, f2, x0, x1, x2⟩ := (H.out.blk 0 rfl).three
  have H := Lib.hid (H.out.set3 (by omega) (by simp; omega) (.int .i64 memO.kind) (.int .i64 memO.reg) (.int .i64 memO.n))
  clear hb
  obtain ⟨z0, z1, z2, _, _, _⟩ := (H.out.blk 0 rfl).three
  obtain ⟨y0, y1, y2, _, _, _⟩ := (H.out.blk 1 rfl).three
  go_wp2_with (first
    | (go_at_call 105; refine (frO H (mem9_any _)).mono ?_; rintro e w' ⟨rfl, H⟩)
    | (go_at_call 106; refine (frO H (acc9_any _)).mono ?_; rintro e w' ⟨rfl, H⟩)
    | (go_at_call 98; refine (frL H 4 rfl (two_any _ _ _)).mono ?_; rintro e w' ⟨va, vc, rfl, HO, H⟩)
    | (go_at_call 97; refine (frI H (ins9_any _ _ _ _ _ HO.out)).mono ?_; rintro e w' ⟨rfl, HO, H⟩; obtain ⟨e0, e1, d0, d1⟩ := (H.out.blk 4 rfl).two))
  obtain ⟨h1, h2⟩ := put_ins (x := .string ⟨#[76, 68]⟩) (y := .slice va 2 vc) H.out.below HO.out (fun k hk => hk) (Nat.le_refl _)
  exact bodyPost_ret (insE_end rfl rfl (((H.out.blk 4 rfl).set 0 _).set 1 _)) rfl ⟨_, rfl, h1, h2⟩
set_option maxHeartbeats 4000000 in
set_option maxRecDepth 100000 in
theorem low_2_1a (y : Int) (h0 : 0 ≤ y) (h4 : y < 4) (hq : y % 2 = 1) (w : World) : Calls Tryz.prog 96 #[.int .i64 y, .int .i64 2] w (InsE w ⟨#[76, 68]⟩ [accO, indO (y / 2)] ⟨#[]⟩) := by
  have H0 := Lib.hid ((Fr.start w).new' 25 #[.string ⟨#[]⟩, .slice none 0 0] rfl)
  go_enter Tryz.func96, Tryz.ntmps96
  go_wp2_with fail
  refine (rp_any (y / 2) 3 _).mono ?_
  rintro e w1 ⟨rfl, hb⟩
  have LT1 := Lib.hid (((H0.out.next hb).blk 0 rfl).lt)
  have H1 := Lib.hid ((H0.out.next hb).new' 87 #[.int .i64 (rpF (y / 2) 3).kind, .int .i64 (rpF (y / 2) 3).reg, .int .i64 (rpF (y / 2) 3).n] rfl)
  clear hb
  go_wp2_with fail
  refine (rp_any 2 3 _).mono ?_
  rintro e w2 ⟨rfl, hb⟩
  have LT2 := Lib.hid (((H1.out.next hb).blk 0 rfl).lt)
  have H := Lib.hid ((H1.out.next hb).new' 87 #[.int .i64 (rpF 2 3).kind, .int .i64 (rpF 2 3).reg, .int .i64 (rpF 2 3).n] rfl)
  obtain ⟨e0, e1, d0, d1⟩ := (H.out.blk 2 rfl).two
  clear hb
  have HP := Lib.hid (H.out.new' 87 #[.int .i64 0, .int .i64 0, .int .i64 0] (b := w2.heap.size + 1) (by rw [World.size_alloc]))
  have l1 := LT1.out
  have l2 := LT2.out
  go_wp2_with fail
  refine (acc9_any _).mono ?_
  rintro e w3 ⟨rfl, hb⟩
  have l3 := ((HP.out.next hb).blk 0 rfl).lt
  have H := Lib.hid ((HP.out.next hb).new' 87 #[.int .i64 accO.kind, .int .i64 accO.reg, .int .i64 accO.n] rfl)
  clear hb e0 e1 d0 d1
  go_wp2_with fail
  refine (ind9_any (y / 2) _).mono ?_
  rintro e w4 ⟨rfl, hb⟩
  have H := Lib.hid ((H.out.next hb).sub (M := (w2.heap.size + 1, 87, #[.int .i64 0, .int .i64 0, .int .i64 0]) :: (w3.heap.size, 87, #[.int .i64 accO.kind, .int .i64 accO.reg, .int .i64 accO.n]) :: [(w2.heap.size, 87, #[.int .i64 (rpF 2 3).kind, .int .i64 (rpF 2 3).reg, .int .i64 (rpF 2 3).n]), (w1.heap.size, 87, #[.int .i64 (rpF (y / 2) 3).kind, .int .i64 (rpF (y / 2) 3).reg, .int .i64 (rpF (y / 2) 3).n]), (w.heap.size, 25, #[.string ⟨#[]⟩, .slice none 0 0])]) (by simp))
  obtain ⟨f0, f1, f2, x0, x1, x2⟩ := (H.out.blk 0 rfl).three
  have H := Lib.hid (H.out.set3 (by omega) (by simp; omega) (.int .i64 (indO (y / 2)).kind) (.int .i64 (indO (y / 2)).reg) (.int .i64 (indO (y / 2)).n))
  clear hb
  obtain ⟨z0, z1, z2, _, _, _⟩ := (H.out.blk 0 rfl).three
  obtain ⟨y0, y1, y2, _, _, _⟩ := (H.out.blk 1 rfl).three
  go_wp2_with (first
    | (go_at_call 104; refine (frO H (ind9_any _ _)).mono ?_; rintro e w' ⟨rfl, H⟩)
    | (go_at_call 106; refine (frO H (acc9_any _)).mono ?_; rintro e w' ⟨rfl, H⟩)
    | (go_at_call 98; refine (frL H 4 rfl (two_any _ _ _)).mono ?_; rintro e w' ⟨va, vc, rfl, HO, H⟩)
    | (go_at_call 97; refine (frI H (ins9_any _ _ _ _ _ HO.out)).mono ?_; rintro e w' ⟨rfl, HO, H⟩; obtain ⟨e0, e1, d0, d1⟩ := (H.out.blk 4 rfl).two))
  obtain ⟨h1, h2⟩ := put_ins (x := .string ⟨#[76, 68]⟩) (y := .slice va 2 vc) H.out.below HO.out (fun k hk => hk) (Nat.le_refl _)
  exact bodyPost_ret (insE_end rfl rfl (((H.out.blk 4 rfl).set 0 _).set 1 _)) rfl ⟨_, rfl, h1, h2⟩
set_option maxHeartbeats 4000000 in
set_option maxRecDepth 100000 in
theorem low_2_1b (y : Int) (h0 : 4 ≤ y) (h4 : y < 6) (hq : y % 2 = 1) (w : World) : Calls Tryz.prog 96 #[.int .i64 y, .int .i64 2] w (InsE w ⟨#[76, 68]⟩ [rpF 2 3, memO] ⟨#[119]⟩) := by
  have H0 := Lib.hid ((Fr.start w).new' 25 #[.string ⟨#[]⟩, .slice none 0 0] rfl)
  go_enter Tryz.func96, Tryz.ntmps96
  go_wp2_with fail
  refine (rp_any (y / 2) 3 _).mono ?_
  rintro e w1 ⟨rfl, hb⟩
  have LT1 := Lib.hid (((H0.out.next hb).blk 0 rfl).lt)
  have H1 := Lib.hid ((H0.out.next hb).new' 87 #[.int .i64 (rpF (y / 2) 3).kind, .int .i64 (rpF (y / 2) 3).reg, .int .i64 (rpF (y / 2) 3).n] rfl)
  clear hb
  go_wp2_with fail
  refine (rp_any 2 3 _).mono ?_
  rintro e w2 ⟨rfl, hb⟩
  have LT2 := Lib.hid (((H1.out.next hb).blk 0 rfl).lt)
  have H := Lib.hid ((H1.out.next hb).new' 87 #[.int .i64 (rpF 2 3).kind, .int .i64 (rpF 2 3).reg, .int .i64 (rpF 2 3).n] rfl)
  obtain ⟨e0, e1, d0, d1⟩ := (H.out.blk 2 rfl).two
  clear hb
  have HP := Lib.hid (H.out.new' 87 #[.int .i64 0, .int .i64 0, .int .i64 0] (b := w2.heap.size + 1) (by rw [World.size_alloc]))
  have l1 := LT1.out
  have l2 := LT2.out
  go_wp2_with fail
  refine (acc9_any _).mono ?_
  rintro e w3 ⟨rfl, hb⟩
  have l3 := ((HP.out.next hb).blk 0 rfl).lt
  have H := Lib.hid ((HP.out.next hb).new' 87 #[.int .i64 accO.kind, .int .i64 accO.reg, .int .i64 accO.n] rfl)
  clear hb e0 e1 d0 d1
  go_wp2_with fail
  refine (mem9_any _).mono ?_
  rintro e w4 ⟨rfl, hb⟩
  have H := Lib.hid ((H.out.next hb).sub (M := (w2.heap.size + 1, 87, #[.int .i64 0, .int .i64 0, .int .i64 0]) :: (w3.heap.size, 87, #[.int .i64 accO.kind, .int .i64 accO.reg, .int .i64 accO.n]) :: [(w2.heap.size, 87, #[.int .i64 (rpF 2 3).kind, .int .i64 (rpF 2 3).reg, .int .i64 (rpF 2 3).n]), (w1.heap.size, 87, #[.int .i64 (rpF (y / 2) 3).kind, .int .i64 (rpF (y / 2) 3).reg, .int .i64 (rpF (y / 2) 3).n]), (w.heap.size, 25, #[.string ⟨#[]⟩, .slice none 0 0])]) (by simp))
  obtain ⟨f0, f1, f2, x0, x1, x2⟩ := (H.out.blk 0 rfl).three
  have H := Lib.hid (H.out.set3 (by omega) (by simp; omega) (.int .i64 memO.kind) (.int .i64 memO.reg) (.int .i64 memO.n))
  clear hb
  obtain ⟨g0, g1, g2, _, _, _⟩ := (H.out.blk 2 rfl).three
  obtain ⟨a0, a1, a2, b0, b1, b2⟩ := (H.out.blk 1 rfl).three
  have H := Lib.hid ((H.out.sub (M := (w3.heap.size, 87, #[.int .i64 accO.kind, .int .i64 accO.reg, .int .i64 accO.n]) :: (w2.heap.size + 1, 87, #[.int .i64 memO.kind, .int .i64 memO.reg, .int .i64 memO.n]) :: [(w2.heap.size, 87, #[.int .i64 (rpF 2 3).kind, .int .i64 (rpF 2 3).reg, .int .i64 (rpF 2 3).n]), (w1.heap.size, 87, #[.int .i64 (rpF (y / 2) 3).kind, .int .i64 (rpF (y / 2) 3).reg, .int .i64 (rpF (y / 2) 3).n]), (w.heap.size, 25, #[.string ⟨#[]⟩, .slice none 0 0])]) (by simp)).set3 (by omega) (by simp; omega) (.int .i64 (rpF 2 3).kind) (.int .i64 (rpF 2 3).reg) (.int .i64 (rpF 2 3).n))
  obtain ⟨z0, z1, z2, _, _, _⟩ := (H.out.blk 0 rfl).three
  obtain ⟨y0, y1, y2, _, _, _⟩ := (H.out.blk 1 rfl).three
  go_wp2_with (first
    | (go_at_call 103; refine (frO H (rp_any _ _ _)).mono ?_; rintro e w' ⟨rfl, H⟩)
    | (go_at_call 105; refine (frO H (mem9_any _)).mono ?_; rintro e w' ⟨rfl, H⟩)
    | (go_at_call 98; refine (frL H 4 rfl (two_any _ _ _)).mono ?_; rintro e w' ⟨va, vc, rfl, HO, H⟩)
    | (go_at_call 97; refine (frI H (ins9_any _ _ _ _ _ HO.out)).mono ?_; rintro e w' ⟨rfl, HO, H⟩; obtain ⟨e0, e1, d0, d1⟩ := (H.out.blk 4 rfl).two))
  obtain ⟨h1, h2⟩ := put_ins (x := .string ⟨#[76, 68]⟩) (y := .slice va 2 vc) H.out.below HO.out (fun k hk => hk) (Nat.le_refl _)
  exact bodyPost_ret (insE_end rfl rfl (((H.out.blk 4 rfl).set 0 _).set 1 _)) rfl ⟨_, rfl, h1, h2⟩
set_option maxHeartbeats 4000000 in
set_option maxRecDepth 100000 in
theorem low_2_1c (y : Int) (h0 : 6 ≤ y) (h4 : y < 8) (hq : y % 2 = 1) (w : World) : Calls Tryz.prog 96 #[.int .i64 y, .int .i64 2] w (InsE w ⟨#[76, 68]⟩ [accO, memO] ⟨#[119]⟩) := by
  have H0 := Lib.hid ((Fr.start w).new' 25 #[.string ⟨#[]⟩, .slice none 0 0] rfl)
  go_enter Tryz.func96, Tryz.ntmps96
  go_wp2_with fail
  refine (rp_any (y / 2) 3 _).mono ?_
  rintro e w1 ⟨rfl, hb⟩
  have LT1 := Lib.hid (((H0.out.next hb).blk 0 rfl).lt)
  have H1 := Lib.hid ((H0.out.next hb).new' 87 #[.int .i64 (rpF (y / 2) 3).kind, .int .i64 (rpF (y / 2) 3).reg, .int .i64 (rpF (y / 2) 3).n] rfl)
  clear hb
  go_wp2_with fail
  refine (rp_any 2 3 _).mono ?_
  rintro e w2 ⟨rfl, hb⟩
  have LT2 := Lib.hid (((H1.out.next hb).blk 0 rfl).lt)
  have H := Lib.hid ((H1.out.next hb).new' 87 #[.int .i64 (rpF 2 3).kind, .int .i64 (rpF 2 3).reg, .int .i64 (rpF 2 3).n] rfl)
  obtain ⟨e0, e1, d0, d1⟩ := (H.out.blk 2 rfl).two
  clear hb
  have HP := Lib.hid (H.out.new' 87 #[.int .i64 0, .int .i64 0, .int .i64 0] (b := w2.heap.size + 1) (by rw [World.size_alloc]))
  have l1 := LT1.out
  have l2 := LT2.out
  go_wp2_with fail
  refine (acc9_any _).mono ?_
  rintro e w3 ⟨rfl, hb⟩
  have l3 := ((HP.out.next hb).blk 0 rfl).lt
  have H := Lib.hid ((HP.out.next hb).new' 87 #[.int .i64 accO.kind, .int .i64 accO.reg, .int .i64 accO.n] rfl)
  clear hb e0 e1 d0 d1
  go_wp2_with fail
  refine (mem9_any _).mono ?_
  rintro e w4 ⟨rfl, hb⟩
  have H := Lib.hid ((H.out.next hb).sub (M := (w2.heap.size + 1, 87, #[.int .i64 0, .int .i64 0, .int .i64 0]) :: (w3.heap.size, 87, #[.int .i64 accO.kind, .int .i64 accO.reg, .int .i64 accO.n]) :: [(w2.heap.size, 87, #[.int .i64 (rpF 2 3).kind, .int .i64 (rpF 2 3).reg, .int .i64 (rpF 2 3).n]), (w1.heap.size, 87, #[.int .i64 (rpF (y / 2) 3).kind, .int .i64 (rpF (y / 2) 3).reg, .int .i64 (rpF (y / 2) 3).n]), (w.heap.size, 25, #[.string ⟨#[]⟩, .slice none 0 0])]) (by simp))
  obtain ⟨f0, f1, f2, x0, x1, x2⟩ := (H.out.blk 0 rfl).three
  have H := Lib.hid (H.out.set3 (by omega) (by simp; omega) (.int .i64 memO.kind) (.int .i64 memO.reg) (.int .i64 memO.n))
  clear hb
  obtain ⟨z0, z1, z2, _, _, _⟩ := (H.out.blk 0 rfl).three
  obtain ⟨y0, y1, y2, _, _, _⟩ := (H.out.blk 1 rfl).three
  go_wp2_with (first
    | (go_at_call 105; refine (frO H (mem9_any _)).mono ?_; rintro e w' ⟨rfl, H⟩)
    | (go_at_call 106; refine (frO H (acc9_any _)).mono ?_; rintro e w' ⟨rfl, H⟩)
    | (go_at_call 98; refine (frL H 4 rfl (two_any _ _ _)).mono ?_; rintro e w' ⟨va, vc, rfl, HO, H⟩)
    | (go_at_call 97; refine (frI H (ins9_any _ _ _ _ _ HO.out)).mono ?_; rintro e w' ⟨rfl, HO, H⟩; obtain ⟨e0, e1, d0, d1⟩ := (H.out.blk 4 rfl).two))
  obtain ⟨h1, h2⟩ := put_ins (x := .string ⟨#[76, 68]⟩) (y := .slice va 2 vc) H.out.below HO.out (fun k hk => hk) (Nat.le_refl _)
  exact bodyPost_ret (insE_end rfl rfl (((H.out.blk 4 rfl).set 0 _).set 1 _)) rfl ⟨_, rfl, h1, h2⟩
set_option maxHeartbeats 4000000 in
set_option maxRecDepth 100000 in
theorem low_3_0 (y : Int) (h0 : 0 ≤ y) (h8 : y < 8) (hq : y % 2 = 0) (w : World) : Calls Tryz.prog 96 #[.int .i64 y, .int .i64 3] w (InsE w ⟨#[73, 78, 67]⟩ [rpF (y / 2) 3] ⟨#[]⟩) := by
  have H0 := Lib.hid ((Fr.start w).new' 25 #[.string ⟨#[]⟩, .slice none 0 0] rfl)
  go_enter Tryz.func96, Tryz.ntmps96
  go_wp2_with fail
  refine (rp_any (y / 2) 3 _).mono ?_
  rintro e w1 ⟨rfl, hb⟩
  have LT1 := Lib.hid (((H0.out.next hb).blk 0 rfl).lt)
  have H1 := Lib.hid ((H0.out.next hb).new' 87 #[.int .i64 (rpF (y / 2) 3).kind, .int .i64 (rpF (y / 2) 3).reg, .int .i64 (rpF (y / 2) 3).n] rfl)
  clear hb
  go_wp2_with fail
  refine (rp_any 2 3 _).mono ?_
  rintro e w2 ⟨rfl, hb⟩
  have LT2 := Lib.hid (((H1.out.next hb).blk 0 rfl).lt)
  have H := Lib.hid ((H1.out.next hb).new' 87 #[.int .i64 (rpF 2 3).kind, .int .i64 (rpF 2 3).reg, .int .i64 (rpF 2 3).n] rfl)
  obtain ⟨e0, e1, d0, d1⟩ := (H.out.blk 2 rfl).two
  obtain ⟨f0, f1, f2, _, _, _⟩ := (H.out.blk 1 rfl).three
  clear hb
  go_upto_region 34 with fail
  have HX := H
  have H := Lib.hid H.out.drew
  have n1 : ¬ w1.heap.size = w.heap.size := by have := LT1.out; omega
  have n2 : ¬ w.heap.size = w1.heap.size := fun e => n1 e.symm
  obtain ⟨f0, f1, f2, x0, x1, x2⟩ := (H.out.mem w1.heap.size 87 #[.int .i64 (rpF (y / 2) 3).kind, .int .i64 (rpF (y / 2) 3).reg, .int .i64 (rpF (y / 2) 3).n] (by simp)).three
  have HA := Lib.hid (HX.out.new' 9 #[.string ⟨#[73, 78, 67]⟩, .string ⟨#[68, 69, 67]⟩] (b := w2.heap.size + 1) (by rw [World.size_alloc])).drew
  obtain ⟨p0, p1, p2, _, _, _⟩ := (HA.out.mem w1.heap.size 87 #[.int .i64 (rpF (y / 2) 3).kind, .int .i64 (rpF (y / 2) 3).reg, .int .i64 (rpF (y / 2) 3).n] (by simp)).three
  go_region_law ((go_simp; (first
      | (go_at_call 101; refine (one_any _ _).mono ?_; rintro e w' ⟨v, rfl, ho, hb⟩; obtain ⟨va, vc, rfl⟩ := ho.form; have HO := Lib.hid (ho.mono (r := fun k => w.heap.size < k) (fun k hk => Nat.lt_of_lt_of_le (H.out.mem w.heap.size 25 #[.string ⟨#[]⟩, .slice none 0 0] (by simp)).lt (Nat.le_trans (by first | (with_reducible exact Nat.le_refl _) | (simp only [World.size_drew, World.size_alloc]; omega)) hk))); have H := Lib.hid ((HX.out.new' 9 #[.string ⟨#[73, 78, 67]⟩, .string ⟨#[68, 69, 67]⟩] (b := w2.heap.size + 1) (by rw [World.size_alloc])).drew.next hb); obtain ⟨s0, s1, _, _⟩ := (H.out.blk 0 rfl).two; obtain ⟨f0, f1, f2, x0, x1, x2⟩ := (H.out.mem w1.heap.size 87 #[.int .i64 (rpF (y / 2) 3).kind, .int .i64 (rpF (y / 2) 3).reg, .int .i64 (rpF (y / 2) 3).n] (by simp)).three; obtain ⟨e0, e1, d0, d1⟩ := (H.out.mem w.heap.size 25 #[.string ⟨#[]⟩, .slice none 0 0] (by simp)).two; clear ho hb)
      | (go_at_call 101; refine (one_any _ _).mono ?_; rintro e w' ⟨v, rfl, ho, hb⟩; obtain ⟨va, vc, rfl⟩ := ho.form; have HO := Lib.hid (ho.mono (r := fun k => w.heap.size < k) (fun k hk => Nat.lt_of_lt_of_le (H.out.mem w.heap.size 25 #[.string ⟨#[]⟩, .slice none 0 0] (by simp)).lt (Nat.le_trans (by first | (with_reducible exact Nat.le_refl _) | (simp only [World.size_drew, World.size_alloc]; omega)) hk))); have H := Lib.hid (H.out.next hb); obtain ⟨f0, f1, f2, x0, x1, x2⟩ := (H.out.mem w1.heap.size 87 #[.int .i64 (rpF (y / 2) 3).kind, .int .i64 (rpF (y / 2) 3).reg, .int .i64 (rpF (y / 2) 3).n] (by simp)).three; obtain ⟨e0, e1, d0, d1⟩ := (H.out.mem w.heap.size 25 #[.string ⟨#[]⟩, .slice none 0 0] (by simp)).two; clear ho hb)
      | (go_at_call 97; refine (ins9_any _ _ _ _ _ HO.out).mono ?_; rintro e w' ⟨rfl, ho, hb⟩; have HO := Lib.hid ho; have H := Lib.hid (H.out.next hb); obtain ⟨f0, f1, f2, x0, x1, x2⟩ := (H.out.mem w1.heap.size 87 #[.int .i64 (rpF (y / 2) 3).kind, .int .i64 (rpF (y / 2) 3).reg, .int .i64 (rpF (y / 2) 3).n] (by simp)).three; obtain ⟨e0, e1, d0, d1⟩ := (H.out.mem w.heap.size 25 #[.string ⟨#[]⟩, .slice none 0 0] (by simp)).two; clear ho hb)
      | (go_at_call 97; refine (ins9_any _ _ _ _ _ (HO.out.below ((Below.refl _ _).alloc (Nat.le_refl _) _))).mono ?_; rintro e w' ⟨rfl, ho, hb⟩; have HO := Lib.hid ho; have H := Lib.hid ((H.out.alloc _).next hb); obtain ⟨f0, f1, f2, x0, x1, x2⟩ := (H.out.mem w1.heap.size 87 #[.int .i64 (rpF (y / 2) 3).kind, .int .i64 (rpF (y / 2) 3).reg, .int .i64 (rpF (y / 2) 3).n] (by simp)).three; obtain ⟨e0, e1, d0, d1⟩ := (H.out.mem w.heap.size 25 #[.string ⟨#[]⟩, .slice none 0 0] (by simp)).two; clear ho hb)); dsimp only))
  all_goals go_wp2
  all_goals obtain ⟨h1, h2⟩ := put_ins (x := .string ⟨#[73, 78, 67]⟩) (y := .slice va 1 vc) H.out.below HO.out (fun k hk => hk) (Nat.le_refl _)
  all_goals exact bodyPost_ret (insE_end rfl rfl (((H.out.mem w.heap.size 25 #[.string ⟨#[]⟩, .slice none 0 0] (by simp)).set 0 _).set 1 _)) rfl ⟨_, rfl, h1, h2⟩
set_option maxHeartbeats 4000000 in
set_option maxRecDepth 100000 in
theorem low_3_1 (y : Int) (h0 : 0 ≤ y) (h8 : y < 8) (hq : y % 2 = 1) (w : World) : Calls Tryz.prog 96 #[.int .i64 y, .int .i64 3] w (InsE w ⟨#[68, 69, 67]⟩ [rpF (y / 2) 3] ⟨#[]⟩) := by
  have H0 := Lib.hid ((Fr.start w).new' 25 #[.string ⟨#[]⟩, .slice none 0 0] rfl)
  go_enter Tryz.func96, Tryz.ntmps96
  go_wp2_with fail
  refine (rp_any (y / 2) 3 _).mono ?_
  rintro e w1 ⟨rfl, hb⟩
  have LT1 := Lib.hid (((H0.out.next hb).blk 0 rfl).lt)
  have H1 := Lib.hid ((H0.out.next hb).new' 87 #[.int .i64 (rpF (y / 2) 3).kind, .int .i64 (rpF (y / 2) 3).reg, .int .i64 (rpF (y / 2) 3).n] rfl)
  clear hb
  go_wp2_with fail
  refine (rp_any 2 3 _).mono ?_
  rintro e w2 ⟨rfl, hb⟩
  have LT2 := Lib.hid (((H1.out.next hb).blk 0 rfl).lt)
  have H := Lib.hid ((H1.out.next hb).new' 87 #[.int .i64 (rpF 2 3).kind, .int .i64 (rpF 2 3).reg, .int .i64 (rpF 2 3).n] rfl)
  obtain ⟨e0, e1, d0, d1⟩ := (H.out.blk 2 rfl).two
  obtain ⟨f0, f1, f2, _, _, _⟩ := (H.out.blk 1 rfl).three
  clear hb
  go_upto_region 34 with fail
  have HX := H
  have H := Lib.hid H.out.drew
  have n1 : ¬ w1.heap.size = w.heap.size := by have := LT1.out; omega
  have n2 : ¬ w.heap.size = w1.heap.size := fun e => n1 e.symm
  obtain ⟨f0, f1, f2, x0, x1, x2⟩ := (H.out.mem w1.heap.size 87 #[.int .i64 (rpF (y / 2) 3).kind, .int .i64 (rpF (y / 2) 3).reg, .int .i64 (rpF (y / 2) 3).n] (by simp)).three
  have HA := Lib.hid (HX.out.new' 9 #[.string ⟨#[73, 78, 67]⟩, .string ⟨#[68, 69, 67]⟩] (b := w2.heap.size + 1) (by rw [World.size_alloc])).drew
  obtain ⟨p0, p1, p2, _, _, _⟩ := (HA.out.mem w1.heap.size 87 #[.int .i64 (rpF (y / 2) 3).kind, .int .i64 (rpF (y / 2) 3).reg, .int .i64 (rpF (y / 2) 3).n] (by simp)).three
  go_region_law ((go_simp; (first
      | (go_at_call 101; refine (one_any _ _).mono ?_; rintro e w' ⟨v, rfl, ho, hb⟩; obtain ⟨va, vc, rfl⟩ := ho.form; have HO := Lib.hid (ho.mono (r := fun k => w.heap.size < k) (fun k hk => Nat.lt_of_lt_of_le (H.out.mem w.heap.size 25 #[.string ⟨#[]⟩, .slice none 0 0] (by simp)).lt (Nat.le_trans (by first | (with_reducible exact Nat.le_refl _) | (simp only [World.size_drew, World.size_alloc]; omega)) hk))); have H := Lib.hid ((HX.out.new' 9 #[.string ⟨#[73, 78, 67]⟩, .string ⟨#[68, 69, 67]⟩] (b := w2.heap.size + 1) (by rw [World.size_alloc])).drew.next hb); obtain ⟨s0, s1, _, _⟩ := (H.out.blk 0 rfl).two; obtain ⟨f0, f1, f2, x0, x1, x2⟩ := (H.out.mem w1.heap.size 87 #[.int .i64 (rpF (y / 2) 3).kind, .int .i64 (rpF (y / 2) 3).reg, .int .i64 (rpF (y / 2) 3).n] (by simp)).three; obtain ⟨e0, e1, d0, d1⟩ := (H.out.mem w.heap.size 25 #[.string ⟨#[]⟩, .slice none 0 0] (by simp)).two; clear ho hb)
      | (go_at_call 101; refine (one_any _ _).mono ?_; rintro e w' ⟨v, rfl, ho, hb⟩; obtain ⟨va, vc, rfl⟩ := ho.form; have HO := Lib.hid (ho.mono (r := fun k => w.heap.size < k) (fun k hk => Nat.lt_of_lt_of_le (H.out.mem w.heap.size 25 #[.string ⟨#[]⟩, .slice none 0 0] (by simp)).lt (Nat.le_trans (by first | (with_reducible exact Nat.le_refl _) | (simp only [World.size_drew, World.size_alloc]; omega)) hk))); have H := Lib.hid (H.out.next hb); obtain ⟨f0, f1, f2, x0, x1, x2⟩ := (H.out.mem w1.heap.size 87 #[.int .i64 (rpF (y / 2) 3).kind, .int .i64 (rpF (y / 2) 3).reg, .int .i64 (rpF (y / 2) 3).n] (by simp)).three; obtain ⟨e0, e1, d0, d1⟩ := (H.out.mem w.heap.size 25 #[.string ⟨#[]⟩, .slice none 0 0] (by simp)).two; clear ho hb)
      | (go_at_call 97; refine (ins9_any _ _ _ _ _ HO.out).mono ?_; rintro e w' ⟨rfl, ho, hb⟩; have HO := Lib.hid ho; have H := Lib.hid (H.out.next hb); obtain ⟨f0, f1, f2, x0, x1, x2⟩ := (H.out.mem w1.heap.size 87 #[.int .i64 (rpF (y / 2) 3).kind, .int .i64 (rpF (y / 2) 3).reg, .int .i64 (rpF (y / 2) 3).n] (by simp)).three; obtain ⟨e0, e1, d0, d1⟩ := (H.out.mem w.heap.size 25 #[.string ⟨#[]⟩, .slice none 0 0] (by simp)).two; clear ho hb)
      | (go_at_call 97; refine (ins9_any _ _ _ _ _ (HO.out.below ((Below.refl _ _).alloc (Nat.le_refl _) _))).mono ?_; rintro e w' ⟨rfl, ho, hb⟩; have HO := Lib.hid ho; have H := Lib.hid ((H.out.alloc _).next hb); obtain ⟨f0, f1, f2, x0, x1, x2⟩ := (H.out.mem w1.heap.size 87 #[.int .i64 (rpF (y / 2) 3).kind, .int .i64 (rpF (y / 2) 3).reg, .int .i64 (rpF (y / 2) 3).n] (by simp)).three; obtain ⟨e0, e1, d0, d1⟩ := (H.out.mem w.heap.size 25 #[.string ⟨#[]⟩, .slice none 0 0] (by simp)).two; clear ho hb)); dsimp only))
  all_goals go_wp2
  all_goals obtain ⟨h1, h2⟩ := put_ins (x := .string ⟨#[68, 69, 67]⟩) (y := .slice va 1 vc) H.out.below HO.out (fun k hk => hk) (Nat.le_refl _)
  all_goals exact bodyPost_ret (insE_end rfl rfl (((H.out.mem w.heap.size 25 #[.string ⟨#[]⟩, .slice none 0 0] (by simp)).set 0 _).set 1 _)) rfl ⟨_, rfl, h1, h2⟩
set_option maxHeartbeats 4000000 in
set_option maxRecDepth 100000 in
theorem low_4 (y : Int) (h0 : 0 ≤ y) (h8 : y < 8) (w : World) : Calls Tryz.prog 96 #[.int .i64 y, .int .i64 4] w (InsE w ⟨#[73, 78, 67]⟩ [rF y] ⟨#[]⟩) := by
  have H0 := Lib.hid ((Fr.start w).new' 25 #[.string ⟨#[]⟩, .slice none 0 0] rfl)
  go_enter Tryz.func96, Tryz.ntmps96
  go_wp2_with fail
  refine (rp_any (y / 2) 3 _).mono ?_
  rintro e w1 ⟨rfl, hb⟩
  have LT1 := Lib.hid (((H0.out.next hb).blk 0 rfl).lt)
  have H1 := Lib.hid ((H0.out.next hb).new' 87 #[.int .i64 (rpF (y / 2) 3).kind, .int .i64 (rpF (y / 2) 3).reg, .int .i64 (rpF (y / 2) 3).n] rfl)
  clear hb
  go_wp2_with fail
  refine (rp_any 2 3 _).mono ?_
  rintro e w2 ⟨rfl, hb⟩
  have LT2 := Lib.hid (((H1.out.next hb).blk 0 rfl).lt)
  have H := Lib.hid ((H1.out.next hb).new' 87 #[.int .i64 (rpF 2 3).kind, .int .i64 (rpF 2 3).reg, .int .i64 (rpF 2 3).n] rfl)
  obtain ⟨e0, e1, d0, d1⟩ := (H.out.blk 2 rfl).two
  clear hb
  go_wp2_with (first
    | (go_at_call 51; refine (frO H (r_any _ _)).mono ?_; rintro e w' ⟨rfl, H⟩)
    | (go_at_call 101; refine (frL H 2 rfl (one_any _ _)).mono ?_; rintro e w' ⟨va, vc, rfl, HO, H⟩)
    | (go_at_call 97; refine (frI H (ins9_any _ _ _ _ _ HO.out)).mono ?_; rintro e w' ⟨rfl, HO, H⟩; obtain ⟨e0, e1, d0, d1⟩ := (H.out.blk 2 rfl).two))
  obtain ⟨h1, h2⟩ := put_ins (x := .string ⟨#[73, 78, 67]⟩) (y := .slice va 1 vc) H.out.below HO.out (fun k hk => hk) (Nat.le_refl _)
  exact bodyPost_ret (insE_end rfl rfl (((H.out.blk 2 rfl).set 0 _).set 1 _)) rfl ⟨_, rfl, h1, h2⟩
set_option maxHeartbeats 4000000 in
set_option maxRecDepth 100000 in
theorem low_5 (y : Int) (h0 : 0 ≤ y) (h8 : y < 8) (w : World) : Calls Tryz.prog 96 #[.int .i64 y, .int .i64 5] w (InsE w ⟨#[68, 69, 67]⟩ [rF y] ⟨#[]⟩) := by
  have H0 := Lib.hid ((Fr.start w).new' 25 #[.string ⟨#[]⟩, .slice none 0 0] rfl)
  go_enter Tryz.func96, Tryz.ntmps96
  go_wp2_with fail
  refine (rp_any (y / 2) 3 _).mono ?_
  rintro e w1 ⟨rfl, hb⟩
  have LT1 := Lib.hid (((H0.out.next hb).blk 0 rfl).lt)
  have H1 := Lib.hid ((H0.out.next hb).new' 87 #[.int .i64 (rpF (y / 2) 3).kind, .int .i64 (rpF (y / 2) 3).reg, .int .i64 (rpF (y / 2) 3).n] rfl)
  clear hb
  go_wp2_with fail
  refine (rp_any 2 3 _).mono ?_
  rintro e w2 ⟨rfl, hb⟩
  have LT2 := Lib.hid (((H1.out.next hb).blk 0 rfl).lt)
  have H := Lib.hid ((H1.out.next hb).new' 87 #[.int .i64 (rpF 2 3).kind, .int .i64 (rpF 2 3).reg, .int .i64 (rpF 2 3).n] rfl)
  obtain ⟨e0, e1, d0, d1⟩ := (H.out.blk 2 rfl).two
  clear hb
  go_wp2_with (first
    | (go_at_call 51; refine (frO H (r_any _ _)).mono ?_; rintro e w' ⟨rfl, H⟩)
    | (go_at_call 101; refine (frL H 2 rfl (one_any _ _)).mono ?_; rintro e w' ⟨va, vc, rfl, HO, H⟩)
    | (go_at_call 97; refine (frI H (ins9_any _ _ _ _ _ HO.out)).mono ?_; rintro e w' ⟨rfl, HO, H⟩; obtain ⟨e0, e1, d0, d1⟩ := (H.out.blk 2 rfl).two))
  obtain ⟨h1, h2⟩ := put_ins (x := .string ⟨#[68, 69, 67]⟩) (y := .slice va 1 vc) H.out.below HO.out (fun k hk => hk) (Nat.le_refl _)
  exact bodyPost_ret (insE_end rfl rfl (((H.out.blk 2 rfl).set 0 _).set 1 _)) rfl ⟨_, rfl, h1, h2⟩
set_option maxHeartbeats 4000000 in
set_option maxRecDepth 100000 in
theorem low_6 (y : Int) (h0 : 0 ≤ y) (h8 : y < 8) (w : World) : Calls Tryz.prog 96 #[.int .i64 y, .int .i64 6] w (InsE w ⟨#[76, 68]⟩ [rF y, immO 0] ⟨#[110]⟩) := by
  have H0 := Lib.hid ((Fr.start w).new' 25 #[.string ⟨#[]⟩, .slice none 0 0] rfl)
  go_enter Tryz.func96, Tryz.ntmps96
  go_wp2_with fail
  refine (rp_any (y / 2) 3 _).mono ?_
  rintro e w1 ⟨rfl, hb⟩
  have LT1 := Lib.hid (((H0.out.next hb).blk 0 rfl).lt)
  have H1 := Lib.hid ((H0.out.next hb).new' 87 #[.int .i64 (rpF (y / 2) 3).kind, .int .i64 (rpF (y / 2) 3).reg, .int .i64 (rpF (y / 2) 3).n] rfl)
  clear hb
  go_wp2_with fail
  refine (rp_any 2 3 _).mono ?_
  rintro e w2 ⟨rfl, hb⟩
  have LT2 := Lib.hid (((H1.out.next hb).blk 0 rfl).lt)
  have H := Lib.hid ((H1.out.next hb).new' 87 #[.int .i64 (rpF 2 3).kind, .int .i64 (rpF 2 3).reg, .int .i64 (rpF 2 3).n] rfl)
  obtain ⟨e0, e1, d0, d1⟩ := (H.out.blk 2 rfl).two
  clear hb
  go_wp2_with (first
    | (go_at_call 51; refine (frO H (r_any _ _)).mono ?_; rintro e w' ⟨rfl, H⟩)
    | (go_at_call 102; refine (frO H (imm9_any _ _)).mono ?_; rintro e w' ⟨rfl, H⟩)
    | (go_at_call 98; refine (frL H 2 rfl (two_any _ _ _)).mono ?_; rintro e w' ⟨va, vc, rfl, HO, H⟩)
    | (go_at_call 97; refine (frI H (ins9_any _ _ _ _ _ HO.out)).mono ?_; rintro e w' ⟨rfl, HO, H⟩; obtain ⟨e0, e1, d0, d1⟩ := (H.out.blk 2 rfl).two))
  obtain ⟨h1, h2⟩ := put_ins (x := .string ⟨#[76, 68]⟩) (y := .slice va 2 vc) H.out.below HO.out (fun k hk => hk) (Nat.le_refl _)
  exact bodyPost_ret (insE_end rfl rfl (((H.out.blk 2 rfl).set 0 _).set 1 _)) rfl ⟨_, rfl, h1, h2⟩
set_option maxHeartbeats 4000000 in
set_option maxRecDepth 100000 in
theorem low_7_0  (w : World) : Calls Tryz.prog 96 #[.int .i64 0, .int .i64 7] w (InsE w ⟨#[82, 76, 67, 65]⟩ [] ⟨#[]⟩) := by
  have H0 := Lib.hid ((Fr.start w).new' 25 #[.string ⟨#[]⟩, .slice none 0 0] rfl)
  go_enter Tryz.func96, Tryz.ntmps96
  go_wp2_with fail
  refine (rp_any 0 3 _).mono ?_
  rintro e w1 ⟨rfl, hb⟩
  have LT1 := Lib.hid (((H0.out.next hb).blk 0 rfl).lt)
  have H1 := Lib.hid ((H0.out.next hb).new' 87 #[.int .i64 (rpF 0 3).kind, .int .i64 (rpF 0 3).reg, .int .i64 (rpF 0 3).n] rfl)
  clear hb
  go_wp2_with fail
  refine (rp_any 2 3 _).mono ?_
  rintro e w2 ⟨rfl, hb⟩
  have LT2 := Lib.hid (((H1.out.next hb).blk 0 rfl).lt)
  have H := Lib.hid ((H1.out.next hb).new' 87 #[.int .i64 (rpF 2 3).kind, .int .i64 (rpF 2 3).reg, .int .i64 (rpF 2 3).n] rfl)
  obtain ⟨e0, e1, d0, d1⟩ := (H.out.blk 2 rfl).two
  clear hb
  go_wp2_with (first
    | (go_at_call 97; refine (frI (Lib.hid (H.out.alloc _)) (ins9_any _ none 0 0 _ (opdOwn_none _ (fun k => w.heap.size < k)))).mono ?_; rintro e w' ⟨rfl, HO, H⟩; obtain ⟨e0, e1, d0, d1⟩ := (H.out.blk 2 rfl).two))
  obtain ⟨h1, h2⟩ := put_ins (x := .string ⟨#[82, 76, 67, 65]⟩) (y := .slice none 0 0) H.out.below HO.out (fun k hk => hk) (Nat.le_refl _)
  exact bodyPost_ret (insE_end rfl rfl (((H.out.blk 2 rfl).set 0 _).set 1 _)) rfl ⟨_, rfl, h1, h2⟩
set_option maxHeartbeats 4000000 in
set_option maxRecDepth 100000 in
theorem low_7_1  (w : World) : Calls Tryz.prog 96 #[.int .i64 1, .int .i64 7] w (InsE w ⟨#[82, 82, 67, 65]⟩ [] ⟨#[]⟩) := by
  have H0 := Lib.hid ((Fr.start w).new' 25 #[.string ⟨#[]⟩, .slice none 0 0] rfl)
  go_enter Tryz.func96, Tryz.ntmps96
  go_wp2_with fail
  refine (rp_any 0 3 _).mono ?_
  rintro e w1 ⟨rfl, hb⟩
  have LT1 := Lib.hid (((H0.out.next hb).blk 0 rfl).lt)
  have H1 := Lib.hid ((H0.out.next hb).new' 87 #[.int .i64 (rpF 0 3).kind, .int .i64 (rpF 0 3).reg, .int .i64 (rpF 0 3).n] rfl)
  clear hb
  go_wp2_with fail
  refine (rp_any 2 3 _).mono ?_
  rintro e w2 ⟨rfl, hb⟩
  have LT2 := Lib.hid (((H1.out.next hb).blk 0 rfl).lt)
  have H := Lib.hid ((H1.out.next hb).new' 87 #[.int .i64 (rpF 2 3).kind, .int .i64 (rpF 2 3).reg, .int .i64 (rpF 2 3).n] rfl)
  obtain ⟨e0, e1, d0, d1⟩ := (H.out.blk 2 rfl).two
  clear hb
  go_wp2_with (first
    | (go_at_call 97; refine (frI (Lib.hid (H.out.alloc _)) (ins9_any _ none 0 0 _ (opdOwn_none _ (fun k => w.heap.size < k)))).mono ?_; rintro e w' ⟨rfl, HO, H⟩; obtain ⟨e0, e1, d0, d1⟩ := (H.out.blk 2 rfl).two))
  obtain ⟨h1, h2⟩ := put_ins (x := .string ⟨#[82, 82, 67, 65]⟩) (y := .slice none 0 0) H.out.below HO.out (fun k hk => hk) (Nat.le_refl _)
  exact bodyPost_ret (insE_end rfl rfl (((H.out.blk 2 rfl).set 0 _).set 1 _)) rfl ⟨_, rfl, h1, h2⟩
set_option maxHeartbeats 4000000 in
set_option maxRecDepth 100000 in
theorem low_7_2  (w : World) : Calls Tryz.prog 96 #[.int .i64 2, .int .i64 7] w (InsE w ⟨#[82, 76, 65]⟩ [] ⟨#[]⟩) := by
  have H0 := Lib.hid ((Fr.start w).new' 25 #[.string ⟨#[]⟩, .slice none 0 0] rfl)
  go_enter Tryz.func96, Tryz.ntmps96
  go_wp2_with fail
  refine (rp_any 1 3 _).mono ?_
  rintro e w1 ⟨rfl, hb⟩
  have LT1 := Lib.hid (((H0.out.next hb).blk 0 rfl).lt)
  have H1 := Lib.hid ((H0.out.next hb).new' 87 #[.int .i64 (rpF 1 3).kind, .int .i64 (rpF 1 3).reg, .int .i64 (rpF 1 3).n] rfl)
  clear hb
  go_wp2_with fail
  refine (rp_any 2 3 _).mono ?_
  rintro e w2 ⟨rfl, hb⟩
  have LT2 := Lib.hid (((H1.out.next hb).blk 0 rfl).lt)
  have H := Lib.hid ((H1.out.next hb).new' 87 #[.int .i64 (rpF 2 3).kind, .int .i64 (rpF 2 3).reg, .int .i64 (rpF 2 3).n] rfl)
  obtain ⟨e0, e1, d0, d1⟩ := (H.out.blk 2 rfl).two
  clear hb
  go_wp2_with (first
    | (go_at_call 97; refine (frI (Lib.hid (H.out.alloc _)) (ins9_any _ none 0 0 _ (opdOwn_none _ (fun k => w.heap.size < k)))).mono ?_; rintro e w' ⟨rfl, HO, H⟩; obtain ⟨e0, e1, d0, d1⟩ := (H.out.blk 2 rfl).two))
  obtain ⟨h1, h2⟩ := put_ins (x := .string ⟨#[82, 76, 65]⟩) (y := .slice none 0 0) H.out.below HO.out (fun k hk => hk) (Nat.le_refl _)
  exact bodyPost_ret (insE_end rfl rfl (((H.out.blk 2 rfl).set 0 _).set 1 _)) rfl ⟨_, rfl, h1, h2⟩
set_option maxHeartbeats 4000000 in
set_option maxRecDepth 100000 in
theorem low_7_3  (w : World) : Calls Tryz.prog 96 #[.int .i64 3, .int .i64 7] w (InsE w ⟨#[82, 82, 65]⟩ [] ⟨#[]⟩) := by
  have H0 := Lib.hid ((Fr.start w).new' 25 #[.string ⟨#[]⟩, .slice none 0 0] rfl)
  go_enter Tryz.func96, Tryz.ntmps96
  go_wp2_with fail
  refine (rp_any 1 3 _).mono ?_
  rintro e w1 ⟨rfl, hb⟩
  have LT1 := Lib.hid (((H0.out.next hb).blk 0 rfl).lt)
  have H1 := Lib.hid ((H0.out.next hb).new' 87 #[.int .i64 (rpF 1 3).kind, .int .i64 (rpF 1 3).reg, .int .i64 (rpF 1 3).n] rfl)
  clear hb
  go_wp2_with fail
  refine (rp_any 2 3 _).mono ?_
  rintro e w2 ⟨rfl, hb⟩
  have LT2 := Lib.hid (((H1.out.next hb).blk 0 rfl).lt)
  have H := Lib.hid ((H1.out.next hb).new' 87 #[.int .i64 (rpF 2 3).kind, .int .i64 (rpF 2 3).reg, .int .i64 (rpF 2 3).n] rfl)
  obtain ⟨e0, e1, d0, d1⟩ := (H.out.blk 2 rfl).two
  clear hb
  go_wp2_with (first
    | (go_at_call 97; refine (frI (Lib.hid (H.out.alloc _)) (ins9_any _ none 0 0 _ (opdOwn_none _ (fun k => w.heap.size < k)))).mono ?_; rintro e w' ⟨rfl, HO, H⟩; obtain ⟨e0, e1, d0, d1⟩ := (H.out.blk 2 rfl).two))
  obtain ⟨h1, h2⟩ := put_ins (x := .string ⟨#[82, 82, 65]⟩) (y := .slice none 0 0) H.out.below HO.out (fun k hk => hk) (Nat.le_refl _)
  exact bodyPost_ret (insE_end rfl rfl (((H.out.blk 2 rfl).set 0 _).set 1 _)) rfl ⟨_, rfl, h1, h2⟩
set_option maxHeartbeats 4000000 in
set_option maxRecDepth 100000 in
theorem low_7_4  (w : World) : Calls Tryz.prog 96 #[.int .i64 4, .int .i64 7] w (InsE w ⟨#[68, 65, 65]⟩ [] ⟨#[]⟩) := by
  have H0 := Lib.hid ((Fr.start w).new' 25 #[.string ⟨#[]⟩, .slice none 0 0] rfl)
  go_enter Tryz.func96, Tryz.ntmps96
  go_wp2_with fail
  refine (rp_any 2 3 _).mono ?_
  rintro e w1 ⟨rfl, hb⟩
  have LT1 := Lib.hid (((H0.out.next hb).blk 0 rfl).lt)
  have H1 := Lib.hid ((H0.out.next hb).new' 87 #[.int .i64 (rpF 2 3).kind, .int .i64 (rpF 2 3).reg, .int .i64 (rpF 2 3).n] rfl)
  clear hb
  go_wp2_with fail
  refine (rp_any 2 3 _).mono ?_
  rintro e w2 ⟨rfl, hb⟩
  have LT2 := Lib.hid (((H1.out.next hb).blk 0 rfl).lt)
  have H := Lib.hid ((H1.out.next hb).new' 87 #[.int .i64 (rpF 2 3).kind, .int .i64 (rpF 2 3).reg, .int .i64 (rpF 2 3).n] rfl)
  obtain ⟨e0, e1, d0, d1⟩ := (H.out.blk 2 rfl).two
  clear hb
  go_wp2_with (first
    | (go_at_call 97; refine (frI (Lib.hid (H.out.alloc _)) (ins9_any _ none 0 0 _ (opdOwn_none _ (fun k => w.heap.size < k)))).mono ?_; rintro e w' ⟨rfl, HO, H⟩; obtain ⟨e0, e1, d0, d1⟩ := (H.out.blk 2 rfl).two))
  obtain ⟨h1, h2⟩ := put_ins (x := .string ⟨#[68, 65, 65]⟩) (y := .slice none 0 0) H.out.below HO.out (fun k hk => hk) (Nat.le_refl _)
  exact bodyPost_ret (insE_end rfl rfl (((H.out.blk 2 rfl).set 0 _).set 1 _)) rfl ⟨_, rfl, h1, h2⟩
set_option maxHeartbeats 4000000 in
set_option maxRecDepth 100000 in
theorem low_7_5  (w : World) : Calls Tryz.prog 96 #[.int .i64 5, .int .i64 7] w (InsE w ⟨#[67, 80, 76]⟩ [] ⟨#[]⟩) := by
  have H0 := Lib.hid ((Fr.start w).new' 25 #[.string ⟨#[]⟩, .slice none 0 0] rfl)
  go_enter Tryz.func96, Tryz.ntmps96
  go_wp2_with fail
  refine (rp_any 2 3 _).mono ?_
  rintro e w1 ⟨rfl, hb⟩
  have LT1 := Lib.hid (((H0.out.next hb).blk 0 rfl).lt)
  have H1 := Lib.hid ((H0.out.next hb).new' 87 #[.int .i64 (rpF 2 3).kind, .int .i64 (rpF 2 3).reg, .int .i64 (rpF 2 3).n] rfl)
  clear hb
  go_wp2_with fail
  refine (rp_any 2 3 _).mono ?_
  rintro e w2 ⟨rfl, hb⟩
  have LT2 := Lib.hid (((H1.out.next hb).blk 0 rfl).lt)
  have H := Lib.hid ((H1.out.next hb).new' 87 #[.int .i64 (rpF 2 3).kind, .int .i64 (rpF 2 3).reg, .int .i64 (rpF 2 3).n] rfl)
  obtain ⟨e0, e1, d0, d1⟩ := (H.out.blk 2 rfl).two
  clear hb
  go_wp2_with (first
    | (go_at_call 97; refine (frI (Lib.hid (H.out.alloc _)) (ins9_any _ none 0 0 _ (opdOwn_none _ (fun k => w.heap.size < k)))).mono ?_; rintro e w' ⟨rfl, HO, H⟩; obtain ⟨e0, e1, d0, d1⟩ := (H.out.blk 2 rfl).two))
  obtain ⟨h1, h2⟩ := put_ins (x := .string ⟨#[67, 80, 76]⟩) (y := .slice none 0 0) H.out.below HO.out (fun k hk => hk) (Nat.le_refl _)
  exact bodyPost_ret (insE_end rfl rfl (((H.out.blk 2 rfl).set 0 _).set 1 _)) rfl ⟨_, rfl, h1, h2⟩
set_option maxHeartbeats 4000000 in
set_option maxRecDepth 100000 in
theorem low_7_6  (w : World) : Calls Tryz.prog 96 #[.int .i64 6, .int .i64 7] w (InsE w ⟨#[83, 67, 70]⟩ [] ⟨#[]⟩) := by
  have H0 := Lib.hid ((Fr.start w).new' 25 #[.string ⟨#[]⟩, .slice none 0 0] rfl)
  go_enter Tryz.func96, Tryz.ntmps96
  go_wp2_with fail
  refine (rp_any 3 3 _).mono ?_
  rintro e w1 ⟨rfl, hb⟩
  have LT1 := Lib.hid (((H0.out.next hb).blk 0 rfl).lt)
  have H1 := Lib.hid ((H0.out.next hb).new' 87 #[.int .i64 (rpF 3 3).kind, .int .i64 (rpF 3 3).reg, .int .i64 (rpF 3 3).n] rfl)
  clear hb
  go_wp2_with fail
  refine (rp_any 2 3 _).mono ?_
  rintro e w2 ⟨rfl, hb⟩
  have LT2 := Lib.hid (((H1.out.next hb).blk 0 rfl).lt)
  have H := Lib.hid ((H1.out.next hb).new' 87 #[.int .i64 (rpF 2 3).kind, .int .i64 (rpF 2 3).reg, .int .i64 (rpF 2 3).n] rfl)
  obtain ⟨e0, e1, d0, d1⟩ := (H.out.blk 2 rfl).two
  clear hb
  go_wp2_with (first
    | (go_at_call 97; refine (frI (Lib.hid (H.out.alloc _)) (ins9_any _ none 0 0 _ (opdOwn_none _ (fun k => w.heap.size < k)))).mono ?_; rintro e w' ⟨rfl, HO, H⟩; obtain ⟨e0, e1, d0, d1⟩ := (H.out.blk 2 rfl).two))
  obtain ⟨h1, h2⟩ := put_ins (x := .string ⟨#[83, 67, 70]⟩) (y := .slice none 0 0) H.out.below HO.out (fun k hk => hk) (Nat.le_refl _)
  exact bodyPost_ret (insE_end rfl rfl (((H.out.blk 2 rfl).set 0 _).set 1 _)) rfl ⟨_, rfl, h1, h2⟩
set_option maxHeartbeats 4000000 in
set_option maxRecDepth 100000 in
theorem low_7_7  (w : World) : Calls Tryz.prog 96 #[.int .i64 7, .int .i64 7] w (InsE w ⟨#[67, 67, 70]⟩ [] ⟨#[]⟩) := by
  have H0 := Lib.hid ((Fr.start w).new' 25 #[.string ⟨#[]⟩, .slice none 0 0] rfl)
  go_enter Tryz.func96, Tryz.ntmps96
  go_wp2_with fail
  refine (rp_any 3 3 _).mono ?_
  rintro e w1 ⟨rfl, hb⟩
  have LT1 := Lib.hid (((H0.out.next hb).blk 0 rfl).lt)
  have H1 := Lib.hid ((H0.out.next hb).new' 87 #[.int .i64 (rpF 3 3).kind, .int .i64 (rpF 3 3).reg, .int .i64 (rpF 3 3).n] rfl)
  clear hb
  go_wp2_with fail
  refine (rp_any 2 3 _).mono ?_
  rintro e w2 ⟨rfl, hb⟩
  have LT2 := Lib.hid (((H1.out.next hb).blk 0 rfl).lt)
  have H := Lib.hid ((H1.out.next hb).new' 87 #[.int .i64 (rpF 2 3).kind, .int .i64 (rpF 2 3).reg, .int .i64 (rpF 2 3).n] rfl)
  obtain ⟨e0, e1, d0, d1⟩ := (H.out.blk 2 rfl).two
  clear hb
  go_wp2_with (first
    | (go_at_call 97; refine (frI (Lib.hid (H.out.alloc _)) (ins9_any _ none 0 0 _ (opdOwn_none _ (fun k => w.heap.size < k)))).mono ?_; rintro e w' ⟨rfl, HO, H⟩; obtain ⟨e0, e1, d0, d1⟩ := (H.out.blk 2 rfl).two))
  obtain ⟨h1, h2⟩ := put_ins (x := .string ⟨#[67, 67, 70]⟩) (y := .slice none 0 0) H.out.below HO.out (fun k hk => hk) (Nat.le_refl _)
  exact bodyPost_ret (insE_end rfl rfl (((H.out.blk 2 rfl).set 0 _).set 1 _)) rfl ⟨_, rfl, h1, h2⟩
end Go.Proofs.YtlepicdjnbbndaaGreatDoor
