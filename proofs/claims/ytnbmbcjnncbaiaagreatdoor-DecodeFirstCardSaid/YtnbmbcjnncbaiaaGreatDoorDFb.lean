/-
  DecodeFirst, one way. Conditions: the library's table as its initialiser lays it.
-/
import Derived.Test.YtnbmbcjnncbaiaaGreatDoorD21
import Derived.Test.YtnbmbcjnncbaiaaGreatDoorD22
import Derived.Test.YtnbmbcjnncbaiaaGreatDoorD23
import Derived.Test.YtnbmbcjnncbaiaaGreatDoorD26a
namespace Go.Proofs.YtnbmbcjnncbaiaaGreatDoor
open Go.RowKit Go.Shelf Go.Sort

set_option maxHeartbeats 8000000 in
set_option maxRecDepth 100000 in
theorem DF_no1 (p : Blocks) (a : Option Addr) (c : Nat) (l : List UInt8) (w : World) (h : SlR byteR w p (.slice a l.length c) l) (hT : Spc w) (h1 : ¬ 1000 < l.length) (h0 : 0 < l.length) (hi : ¬ ((itF l).k = 1 ∧ (l.take (itF l).n).length = l.length)) (hk1 : (itF l).k = 1) :
    Calls Tryz.prog 4 #[.slice a l.length c] w fun e w' => e = .returned (.bool true) ∧ RowKit.Below w.heap.size w w' := by
  have HAL := Lib.hid (fun W (hb : RowKit.Below w.heap.size w W) => alive12_any W (hT.below hb))
  have HH := Lib.hid h
  have HT := Lib.hid hT
  clear h hT
  have h1' : ¬ (1000 : Int) < (l.length : Int) := by omega
  have h2 : ¬ l.length = 0 := by omega
  have h2' : ¬ (l.length : Int) = 0 := by omega
  have hl9 : l.length ≤ 1000000 := by omega
  have HFD := Lib.hid (fun W (hb : RowKit.Below w.heap.size w W) => First_any p a c l W (HT.out.below hb) (HH.out.below hb) h0 hl9)
  have HFR := Lib.hid (fun W (hb : RowKit.Below w.heap.size w W) => First12_any p a c l W (HH.out.below hb) h0 hl9)
  have HND := Lib.hid (fun W (hb : RowKit.Below w.heap.size w W) => Need_any p a c l W (HT.out.below hb) (HH.out.below hb) h0 hl9)
  have HNR := Lib.hid (fun W (hb : RowKit.Below w.heap.size w W) => Need12_any p a c l W (HH.out.below hb) h0 hl9)
  generalize needF l = NF at *
  have HI := Lib.hid (InstrD_no p a c l w HT.out HH.out h0 hl9 hi)
  have HKN := Lib.hid hi
  clear h1 h2 hi HH h0 hl9
  obtain ⟨R1, hR1⟩ : ∃ R, R = l.take (itF l).n := ⟨_, rfl⟩
  rw [← hR1] at HKN
  have HR1 := Lib.hid hR1
  clear hR1
  generalize itF l = IT at *
  have HK1 := Lib.hid hk1
  clear hk1
  go_enter Tryz.func4, Tryz.ntmps4
  go_upto_region 4 with (go_at_call 19; refine (HI.out).mono ?_; rintro e w1 ⟨rfl, hb⟩; have HF1 := Lib.hid (((Fr.start w).next hb).new' 27 #[.string ⟨#[]⟩, .slice none 0 0] (b := w1.heap.size) rfl); clear hb)
  generalize w1.alloc (.cells #[.string ⟨#[]⟩, .slice none 0 0] 27) = W1 at *
  generalize w1.heap.size = tb at *
  go_upto_region 7 with (go_at_call 21; refine (HFR.out _ HF1.out.below).mono ?_; rintro e w2 ⟨⟨v2, rfl, hi⟩, hb⟩; have hi2 := hi; obtain ⟨rb, rd, vb, vd, hv, x1, x2⟩ := hi; unfold itmV at hv; rw [← HR1.out, HK1.out] at hv; subst hv; have HY := Lib.hid (hi2.next ((Below.refl _ _).alloc (Nat.le_refl _) (.cells #[.int .i64 1, .slice rb R1.length rd, .string ⟨IT.op.toArray⟩, .slice vb IT.args.length vd, .bool IT.al] 29))); have HY2 := Lib.hid (x2.below ((Below.refl _ _).alloc (Nat.le_refl _) (.cells #[.int .i64 1, .slice rb R1.length rd, .string ⟨IT.op.toArray⟩, .slice vb IT.args.length vd, .bool IT.al] 29))); have HF2 := Lib.hid ((HF1.out.next hb).new' 29 #[.int .i64 1, .slice rb R1.length rd, .string ⟨IT.op.toArray⟩, .slice vb IT.args.length vd, .bool IT.al] (b := w2.heap.size) rfl); clear hb hi2 x1 x2)
  generalize w2.alloc (.cells #[.int .i64 1, .slice rb R1.length rd, .string ⟨IT.op.toArray⟩, .slice vb IT.args.length vd, .bool IT.al] 29) = W2 at *
  generalize w2.heap.size = tc at *
  obtain ⟨⟨d0, d1, d2, d3, d4⟩, _⟩ := (HF2.out.blk 0 rfl).five
  obtain ⟨e0, e1, _⟩ := (HF2.out.blk 1 rfl).two
  have hn1 : ((R1.length : Int) == (l.length : Int)) = false := by rw [beq_eq_false_iff_ne]; exact fun h => HKN.out ⟨HK1.out, by omega⟩
  go_upto_region 8 with fail
  have HF2d := Lib.hid HF2.out.drew
  have HYd := Lib.hid (HY.out.next (Below.refl _ _).drew)
  have HY2d := Lib.hid HY2.out.drew
  clear d0 d1 d2 d3 d4 e0 e1
  obtain ⟨⟨d0, d1, d2, d3, d4⟩, _⟩ := (HF2d.out.blk 0 rfl).five
  obtain ⟨e0, e1, _⟩ := (HF2d.out.blk 1 rfl).two
  refine wp_region_held_drew (S := (fun w' => w'.cell? ⟨tc, 0, none⟩ = some (.int .i64 1) ∧ w'.cell? ⟨tc, 1, none⟩ = some (.slice rb R1.length rd) ∧ w'.cell? ⟨tc, 2, none⟩ = some (.string ⟨IT.op.toArray⟩) ∧ w'.cell? ⟨tc, 3, none⟩ = some (.slice vb IT.args.length vd) ∧ w'.cell? ⟨tc, 4, none⟩ = some (.bool IT.al) ∧ w'.cell? ⟨tb, 0, none⟩ = some (.string ⟨#[]⟩) ∧ w'.cell? ⟨tb, 1, none⟩ = some (.slice none 0 0))) (by kernel_rfl) ?_ (fun hHeld => ?_)
  · (try dsimp only); go_keep
  try simp only [Act.put, List.setIfInBounds_toArray, List.set_cons_zero, List.set_cons_succ]
  refine wpAnyH_ready (rs := [0]) (by kernel_rfl) (by simp) ?_
  refine AllReadyH.cons rfl (fun K hK => ?_) AllReadyH.nil
  go_simp
  (go_at_call 15; refine (HAL.out _ HF2d.out.below).mono ?_; rintro e w3 ⟨rfl, hb⟩; have HF3 := Lib.hid (HF2d.out.next hb); have HY3 := Lib.hid (HYd.out.next hb); have HY3b := Lib.hid (HY2d.out.below hb); clear hb; clear d0 d1 d2 d3 d4 e0 e1; obtain ⟨⟨d0, d1, d2, d3, d4⟩, _⟩ := (HF3.out.blk 0 rfl).five; obtain ⟨e0, e1, _⟩ := (HF3.out.blk 1 rfl).two)
  go_wp2_with fail
  refine hK.out _ _ ?_ (fun hHeld => ?_)
  · (try dsimp only); go_keep
  clear hK K
  try simp only [Act.put, List.setIfInBounds_toArray, List.set_cons_zero, List.set_cons_succ]
  refine wpAnyH_take (i := 1) (oi := { dst := some 49, op := _, type := _, pos := _, after := _, guard := _ }) (v := ?_) rfl (by kernel_rfl) (by kernel_rfl) (by kernel_rfl) (fun _ _ _ h => h) (Or.inl ⟨by rfl, ?_⟩) (by assumption) ?_
  rotate_left
  · intro w hSw; (try dsimp only at hSw); first | (go_simp; done) | (go_simp; with_reducible rfl)
  try simp only [Act.put, List.setIfInBounds_toArray, List.set_cons_zero, List.set_cons_succ]
  refine wpAnyH_take (i := 2) (oi := { dst := some 50, op := _, type := _, pos := _, after := _, guard := _ }) (v := ?_) rfl (by kernel_rfl) (by kernel_rfl) (by kernel_rfl) (fun _ _ _ h => h) (Or.inl ⟨by rfl, ?_⟩) (by assumption) ?_
  rotate_left
  · intro w hSw; (try dsimp only at hSw); first | (go_simp; done) | (go_simp; with_reducible rfl)
  try simp only [Act.put, List.setIfInBounds_toArray, List.set_cons_zero, List.set_cons_succ]
  refine wpAnyH_take (i := 4) (oi := { dst := some 52, op := _, type := _, pos := _, after := _, guard := _ }) (v := ?_) rfl (by kernel_rfl) (by kernel_rfl) (by kernel_rfl) (fun _ _ _ h => h) (Or.inl ⟨by rfl, ?_⟩) (by assumption) ?_
  rotate_left
  · intro w hSw; (try dsimp only at hSw); first | (go_simp; done) | (go_simp; with_reducible rfl)
  try simp only [Act.put, List.setIfInBounds_toArray, List.set_cons_zero, List.set_cons_succ]
  refine wpAnyH_ready (rs := [3]) (by kernel_rfl) (by simp) ?_
  refine AllReadyH.cons rfl (fun K hK => ?_) AllReadyH.nil
  go_simp
  (go_at_call 18; refine (HFD.out _ HF3.out.below).mono ?_; rintro e w4 ⟨⟨v4, rfl, hi⟩, hb⟩; have hi2 := hi; obtain ⟨r4, s4, v4, z4, hv, _, _⟩ := hi; unfold itmV at hv; rw [← HR1.out, HK1.out] at hv; subst hv; have HX4 := Lib.hid hi2; have HF4 := Lib.hid (HF3.out.next hb); have HY4 := Lib.hid (HY3.out.next hb); have HY4b := Lib.hid (HY3b.out.below hb); clear hb hi2; clear d0 d1 d2 d3 d4 e0 e1; obtain ⟨⟨d0, d1, d2, d3, d4⟩, _⟩ := (HF4.out.blk 0 rfl).five; obtain ⟨e0, e1, _⟩ := (HF4.out.blk 1 rfl).two)
  go_wp2_with fail
  refine hK.out _ _ ?_ (fun hHeld => ?_)
  · (try dsimp only); go_keep
  clear hK K
  try simp only [Act.put, List.setIfInBounds_toArray, List.set_cons_zero, List.set_cons_succ]
  refine wpAnyH_ready (rs := [5]) (by kernel_rfl) (by simp) ?_
  refine AllReadyH.cons rfl (fun K hK => ?_) AllReadyH.nil
  go_simp
  (go_at_call 20; refine (same12_self _ _ _ _ _ _ _ HX4.out HY4.out).mono ?_; rintro e w5 ⟨rfl, hb⟩; have HF5 := Lib.hid (HF4.out.next hb); have HY5b := Lib.hid (HY4b.out.below hb); clear hb; clear d0 d1 d2 d3 d4 e0 e1; obtain ⟨⟨d0, d1, d2, d3, d4⟩, _⟩ := (HF5.out.blk 0 rfl).five; obtain ⟨e0, e1, _⟩ := (HF5.out.blk 1 rfl).two)
  go_wp2_with fail
  refine hK.out _ _ ?_ (fun hHeld => ?_)
  · (try dsimp only); go_keep
  clear hK K
  try simp only [Act.put, List.setIfInBounds_toArray, List.set_cons_zero, List.set_cons_succ]
  refine wpAnyH_take (i := 6) (oi := { dst := some 54, op := _, type := _, pos := _, after := _, guard := _ }) (v := ?_) rfl (by kernel_rfl) (by kernel_rfl) (by kernel_rfl) (fun _ _ _ h => h) (Or.inl ⟨by rfl, ?_⟩) (by assumption) ?_
  rotate_left
  · intro w hSw; (try dsimp only at hSw); first | (go_simp; done) | (go_simp; with_reducible rfl)
  try simp only [Act.put, List.setIfInBounds_toArray, List.set_cons_zero, List.set_cons_succ]
  refine wpAnyH_take (i := 7) (oi := { dst := some 55, op := _, type := _, pos := _, after := _, guard := _ }) (v := ?_) rfl (by kernel_rfl) (by kernel_rfl) (by kernel_rfl) (fun _ _ _ h => h) (Or.inl ⟨by rfl, ?_⟩) (by assumption) ?_
  rotate_left
  · intro w hSw; (try dsimp only at hSw); first | (go_simp; done) | (go_simp; with_reducible rfl)
  try simp only [Act.put, List.setIfInBounds_toArray, List.set_cons_zero, List.set_cons_succ]
  refine wpAnyH_take (i := 8) (oi := { dst := some 56, op := _, type := _, pos := _, after := _, guard := _ }) (v := ?_) rfl (by kernel_rfl) (by kernel_rfl) (by kernel_rfl) (fun _ _ _ h => h) (Or.inl ⟨by rfl, ?_⟩) (by assumption) ?_
  rotate_left
  · intro w hSw; (try dsimp only at hSw); first | (go_simp; done) | (go_simp; with_reducible rfl)
  try simp only [Act.put, List.setIfInBounds_toArray, List.set_cons_zero, List.set_cons_succ]
  refine wpAnyH_take (i := 10) (oi := { dst := some 58, op := _, type := _, pos := _, after := _, guard := _ }) (v := ?_) rfl (by kernel_rfl) (by kernel_rfl) (by kernel_rfl) (fun _ _ _ h => h) (Or.inl ⟨by rfl, ?_⟩) (by assumption) ?_
  rotate_left
  · intro w hSw; (try dsimp only at hSw); first | (go_simp; done) | (go_simp; with_reducible rfl)
  try simp only [Act.put, List.setIfInBounds_toArray, List.set_cons_zero, List.set_cons_succ]
  refine wpAnyH_ready (rs := [9]) (by kernel_rfl) (by simp) ?_
  refine AllReadyH.cons rfl (fun K hK => ?_) AllReadyH.nil
  go_simp
  (go_at_call 16; refine (HND.out _ HF5.out.below).mono ?_; rintro e w6 ⟨rfl, hb⟩; have HF6 := Lib.hid (HF5.out.next hb); have HY6b := Lib.hid (HY5b.out.below hb); clear hb; clear d0 d1 d2 d3 d4 e0 e1; obtain ⟨⟨d0, d1, d2, d3, d4⟩, _⟩ := (HF6.out.blk 0 rfl).five; obtain ⟨e0, e1, _⟩ := (HF6.out.blk 1 rfl).two)
  go_wp2_with fail
  refine hK.out _ _ ?_ (fun hHeld => ?_)
  · (try dsimp only); go_keep
  clear hK K
  try simp only [Act.put, List.setIfInBounds_toArray, List.set_cons_zero, List.set_cons_succ]
  refine wpAnyH_ready (rs := [11]) (by kernel_rfl) (by simp) ?_
  refine AllReadyH.cons rfl (fun K hK => ?_) AllReadyH.nil
  go_simp
  (go_at_call 17; refine (HNR.out _ HF6.out.below).mono ?_; rintro e w7 ⟨rfl, hb⟩; have HF7 := Lib.hid (HF6.out.next hb); have HY7b := Lib.hid (HY6b.out.below hb); clear hb; clear d0 d1 d2 d3 d4 e0 e1; obtain ⟨⟨d0, d1, d2, d3, d4⟩, _⟩ := (HF7.out.blk 0 rfl).five; obtain ⟨e0, e1, _⟩ := (HF7.out.blk 1 rfl).two)
  go_wp2_with fail
  refine hK.out _ _ ?_ (fun hHeld => ?_)
  · (try dsimp only); go_keep
  clear hK K
  try simp only [Act.put, List.setIfInBounds_toArray, List.set_cons_zero, List.set_cons_succ]
  refine wpAnyH_take (i := 12) (oi := { dst := some 60, op := _, type := _, pos := _, after := _, guard := _ }) (v := ?_) rfl (by kernel_rfl) (by kernel_rfl) (by kernel_rfl) (fun _ _ _ h => h) (Or.inl ⟨by rfl, ?_⟩) (by assumption) ?_
  rotate_left
  · intro w hSw; (try dsimp only at hSw); first | (go_simp; done) | (go_simp; with_reducible rfl)
  try simp only [Act.put, List.setIfInBounds_toArray, List.set_cons_zero, List.set_cons_succ]
  refine wpAnyH_take (i := 13) (oi := { dst := some 61, op := _, type := _, pos := _, after := _, guard := _ }) (v := ?_) rfl (by kernel_rfl) (by kernel_rfl) (by kernel_rfl) (fun _ _ _ h => h) (Or.inl ⟨by rfl, ?_⟩) (by assumption) ?_
  rotate_left
  · intro w hSw; (try dsimp only at hSw); first | (go_simp; done) | (go_simp; with_reducible rfl)
  try simp only [Act.put, List.setIfInBounds_toArray, List.set_cons_zero, List.set_cons_succ]
  refine wpAnyH_take (i := 14) (oi := { dst := some 62, op := _, type := _, pos := _, after := _, guard := _ }) (v := ?_) rfl (by kernel_rfl) (by kernel_rfl) (by kernel_rfl) (fun _ _ _ h => h) (Or.inl ⟨by rfl, ?_⟩) (by assumption) ?_
  rotate_left
  · intro w hSw; (try dsimp only at hSw); first | (go_simp; done) | (go_simp; with_reducible rfl)
  try simp only [Act.put, List.setIfInBounds_toArray, List.set_cons_zero, List.set_cons_succ]
  refine wpAnyH_take (i := 15) (oi := { dst := some 63, op := _, type := _, pos := _, after := _, guard := _ }) (v := ?_) rfl (by kernel_rfl) (by kernel_rfl) (by kernel_rfl) (fun _ _ _ h => h) (Or.inl ⟨by rfl, ?_⟩) (by assumption) ?_
  rotate_left
  · intro w hSw; (try dsimp only at hSw); first | (go_simp; done) | (go_simp; with_reducible rfl)
  try simp only [Act.put, List.setIfInBounds_toArray, List.set_cons_zero, List.set_cons_succ]
  refine wpAnyH_take (i := 16) (oi := { dst := some 64, op := _, type := _, pos := _, after := _, guard := _ }) (v := ?_) rfl (by kernel_rfl) (by kernel_rfl) (by kernel_rfl) (fun _ _ _ h => h) (Or.inl ⟨by rfl, ?_⟩) (by assumption) ?_
  rotate_left
  · intro w hSw; (try dsimp only at hSw); first | (go_simp; done) | (go_simp; with_reducible rfl)
  try simp only [Act.put, List.setIfInBounds_toArray, List.set_cons_zero, List.set_cons_succ]
  refine wpAnyH_take (i := 17) (oi := { dst := some 65, op := _, type := _, pos := _, after := _, guard := _ }) (v := ?_) rfl (by kernel_rfl) (by kernel_rfl) (by kernel_rfl) (fun _ _ _ h => h) (Or.inl ⟨by rfl, ?_⟩) (by assumption) ?_
  rotate_left
  · intro w hSw; (try dsimp only at hSw); first | (go_simp; done) | (go_simp; with_reducible rfl)
  try simp only [Act.put, List.setIfInBounds_toArray, List.set_cons_zero, List.set_cons_succ]
  refine wpAnyH_take (i := 18) (oi := { dst := some 66, op := _, type := _, pos := _, after := _, guard := _ }) (v := ?_) rfl (by kernel_rfl) (by kernel_rfl) (by kernel_rfl) (fun _ _ _ h => h) (Or.inl ⟨by rfl, ?_⟩) (by assumption) ?_
  rotate_left
  · intro w hSw; (try dsimp only at hSw); first | (go_simp; done) | (go_simp; with_reducible rfl)
  try simp only [Act.put, List.setIfInBounds_toArray, List.set_cons_zero, List.set_cons_succ]
  refine wpAnyH_take (i := 19) (oi := { dst := some 67, op := _, type := _, pos := _, after := _, guard := _ }) (v := ?_) rfl (by kernel_rfl) (by kernel_rfl) (by kernel_rfl) (fun _ _ _ h => h) (Or.inl ⟨by rfl, ?_⟩) (by assumption) ?_
  rotate_left
  · intro w hSw; (try dsimp only at hSw); first | (go_simp; done) | (go_simp; with_reducible rfl)
  try simp only [Act.put, List.setIfInBounds_toArray, List.set_cons_zero, List.set_cons_succ]
  refine wpAnyH_take (i := 20) (oi := { dst := some 68, op := _, type := _, pos := _, after := _, guard := _ }) (v := ?_) rfl (by kernel_rfl) (by kernel_rfl) (by kernel_rfl) (fun _ _ _ h => h) (Or.inl ⟨by rfl, ?_⟩) (by assumption) ?_
  rotate_left
  · intro w hSw; (try dsimp only at hSw); first | (go_simp; done) | (go_simp; with_reducible rfl)
  try simp only [Act.put, List.setIfInBounds_toArray, List.set_cons_zero, List.set_cons_succ]
  refine wpAnyH_take (i := 21) (oi := { dst := some 69, op := _, type := _, pos := _, after := _, guard := _ }) (v := ?_) rfl (by kernel_rfl) (by kernel_rfl) (by kernel_rfl) (fun _ _ _ h => h) (Or.inl ⟨by rfl, ?_⟩) (by assumption) ?_
  rotate_left
  · intro w hSw; (try dsimp only at hSw); first | (go_simp; done) | (go_simp; with_reducible rfl)
  try simp only [Act.put, List.setIfInBounds_toArray, List.set_cons_zero, List.set_cons_succ]
  refine wpAnyH_take (i := 22) (oi := { dst := some 70, op := _, type := _, pos := _, after := _, guard := _ }) (v := undef) rfl (by kernel_rfl) (by kernel_rfl) (by kernel_rfl) (fun _ _ _ h => h) (Or.inr ⟨by rfl, rfl⟩) (by assumption) ?_
  try simp only [Act.put, List.setIfInBounds_toArray, List.set_cons_zero, List.set_cons_succ]
  refine wpAnyH_take (i := 23) (oi := { dst := some 71, op := _, type := _, pos := _, after := _, guard := _ }) (v := undef) rfl (by kernel_rfl) (by kernel_rfl) (by kernel_rfl) (fun _ _ _ h => h) (Or.inr ⟨by rfl, rfl⟩) (by assumption) ?_
  try simp only [Act.put, List.setIfInBounds_toArray, List.set_cons_zero, List.set_cons_succ]
  refine wpAnyH_take (i := 24) (oi := { dst := some 72, op := _, type := _, pos := _, after := _, guard := _ }) (v := undef) rfl (by kernel_rfl) (by kernel_rfl) (by kernel_rfl) (fun _ _ _ h => h) (Or.inr ⟨by rfl, rfl⟩) (by assumption) ?_
  try simp only [Act.put, List.setIfInBounds_toArray, List.set_cons_zero, List.set_cons_succ]
  refine wpAnyH_ready (rs := [25]) (by kernel_rfl) (by simp) ?_
  refine AllReadyH.cons rfl (fun K hK => ?_) AllReadyH.nil
  go_simp
  refine hK.out _ _ ?_ (fun hHeld => ?_)
  · (try dsimp only); go_keep
  clear hK K
  try simp only [Act.put, List.setIfInBounds_toArray, List.set_cons_zero, List.set_cons_succ]
  refine wpAnyH_take (i := 26) (oi := { dst := some 74, op := _, type := _, pos := _, after := _, guard := _ }) (v := ?_) rfl (by kernel_rfl) (by kernel_rfl) (by kernel_rfl) (fun _ _ _ h => h) (Or.inl ⟨by rfl, ?_⟩) (by assumption) ?_
  rotate_left
  · intro w hSw; (try dsimp only at hSw); first | (go_simp; done) | (go_simp; with_reducible rfl)
  try simp only [Act.put, List.setIfInBounds_toArray, List.set_cons_zero, List.set_cons_succ]
  refine wpAnyH_take (i := 27) (oi := { dst := some 75, op := _, type := _, pos := _, after := _, guard := _ }) (v := ?_) rfl (by kernel_rfl) (by kernel_rfl) (by kernel_rfl) (fun _ _ _ h => h) (Or.inl ⟨by rfl, ?_⟩) (by assumption) ?_
  rotate_left
  · intro w hSw; (try dsimp only at hSw); first | (go_simp; done) | (go_simp; with_reducible rfl)
  try simp only [Act.put, List.setIfInBounds_toArray, List.set_cons_zero, List.set_cons_succ]
  refine wpAnyH_take (i := 28) (oi := { dst := some 76, op := _, type := _, pos := _, after := _, guard := _ }) (v := ?_) rfl (by kernel_rfl) (by kernel_rfl) (by kernel_rfl) (fun _ _ _ h => h) (Or.inl ⟨by rfl, ?_⟩) (by assumption) ?_
  rotate_left
  · intro w hSw; (try dsimp only at hSw); first | (go_simp; done) | (go_simp; with_reducible rfl)
  try simp only [Act.put, List.setIfInBounds_toArray, List.set_cons_zero, List.set_cons_succ]
  refine wpAnyH_take (i := 29) (oi := { dst := some 77, op := _, type := _, pos := _, after := _, guard := _ }) (v := ?_) rfl (by kernel_rfl) (by kernel_rfl) (by kernel_rfl) (fun _ _ _ h => h) (Or.inl ⟨by rfl, ?_⟩) (by assumption) ?_
  rotate_left
  · intro w hSw; (try dsimp only at hSw); first | (go_simp; done) | (go_simp; with_reducible rfl)
  try simp only [Act.put, List.setIfInBounds_toArray, List.set_cons_zero, List.set_cons_succ]
  refine wpAnyH_take (i := 30) (oi := { dst := some 78, op := _, type := _, pos := _, after := _, guard := _ }) (v := ?_) rfl (by kernel_rfl) (by kernel_rfl) (by kernel_rfl) (fun _ _ _ h => h) (Or.inl ⟨by rfl, ?_⟩) (by assumption) ?_
  rotate_left
  · intro w hSw; (try dsimp only at hSw); first | (go_simp; done) | (go_simp; with_reducible rfl)
  try simp only [Act.put, List.setIfInBounds_toArray, List.set_cons_zero, List.set_cons_succ]
  refine wpAnyH_take (i := 31) (oi := { dst := some 79, op := _, type := _, pos := _, after := _, guard := _ }) (v := ?_) rfl (by kernel_rfl) (by kernel_rfl) (by kernel_rfl) (fun _ _ _ h => h) (Or.inl ⟨by rfl, ?_⟩) (by assumption) ?_
  rotate_left
  · intro w hSw; (try dsimp only at hSw); first | (go_simp; done) | (go_simp; with_reducible rfl)
  try simp only [Act.put, List.setIfInBounds_toArray, List.set_cons_zero, List.set_cons_succ]
  refine wpAnyH_take (i := 32) (oi := { dst := some 80, op := _, type := _, pos := _, after := _, guard := _ }) (v := ?_) rfl (by kernel_rfl) (by kernel_rfl) (by kernel_rfl) (fun _ _ _ h => h) (Or.inl ⟨by rfl, ?_⟩) (by assumption) ?_
  rotate_left
  · intro w hSw; (try dsimp only at hSw); first | (go_simp; done) | (go_simp; with_reducible rfl)
  try simp only [Act.put, List.setIfInBounds_toArray, List.set_cons_zero, List.set_cons_succ]
  refine wpAnyH_ready (rs := [33]) (by kernel_rfl) (by simp) ?_
  refine AllReadyH.cons rfl (fun K hK => ?_) AllReadyH.nil
  go_simp
  (go_at_call 22; refine (ref07Same_any (fun _ => True) (fun _ => True) ⟨⟨#[]⟩, []⟩ ⟨⟨#[]⟩, []⟩ (.slice none 0 0) (.slice none 0 0) _ (SlR.nil _ _ _) (SlR.nil _ _ _)).mono ?_; rw [insEq_self]; rintro e w8 ⟨rfl, hb⟩; have HF8 := Lib.hid (HF7.out.next hb); clear hb; clear d0 d1 d2 d3 d4 e0 e1; obtain ⟨⟨d0, d1, d2, d3, d4⟩, _⟩ := (HF8.out.blk 0 rfl).five; obtain ⟨e0, e1, _⟩ := (HF8.out.blk 1 rfl).two)
  go_wp2_with fail
  refine hK.out _ _ ?_ (fun hHeld => ?_)
  · (try dsimp only); go_keep
  clear hK K
  try simp only [Act.put, List.setIfInBounds_toArray, List.set_cons_zero, List.set_cons_succ]
  refine wpAnyH_take (i := 34) (oi := { dst := some 82, op := _, type := _, pos := _, after := _, guard := _ }) (v := ?_) rfl (by kernel_rfl) (by kernel_rfl) (by kernel_rfl) (fun _ _ _ h => h) (Or.inl ⟨by rfl, ?_⟩) (by assumption) ?_
  rotate_left
  · intro w hSw; (try dsimp only at hSw); first | (go_simp; done) | (go_simp; with_reducible rfl)
  try simp only [Act.put, List.setIfInBounds_toArray, List.set_cons_zero, List.set_cons_succ]
  refine wpAnyH_take (i := 35) (oi := { dst := some 83, op := _, type := _, pos := _, after := _, guard := _ }) (v := ?_) rfl (by kernel_rfl) (by kernel_rfl) (by kernel_rfl) (fun _ _ _ h => h) (Or.inl ⟨by rfl, ?_⟩) (by assumption) ?_
  rotate_left
  · intro w hSw; (try dsimp only at hSw); first | (go_simp; done) | (go_simp; with_reducible rfl)
  try simp only [Act.put, List.setIfInBounds_toArray, List.set_cons_zero, List.set_cons_succ]
  refine wpAnyH_take (i := 36) (oi := { dst := some 84, op := _, type := _, pos := _, after := _, guard := _ }) (v := ?_) rfl (by kernel_rfl) (by kernel_rfl) (by kernel_rfl) (fun _ _ _ h => h) (Or.inl ⟨by rfl, ?_⟩) (by assumption) ?_
  rotate_left
  · intro w hSw; (try dsimp only at hSw); first | (go_simp; done) | (go_simp; with_reducible rfl)
  try simp only [Act.put, List.setIfInBounds_toArray, List.set_cons_zero, List.set_cons_succ]
  refine wpAnyH_take (i := 37) (oi := { dst := some 2, op := _, type := _, pos := _, after := _, guard := _ }) (v := ?_) rfl (by kernel_rfl) (by kernel_rfl) (by kernel_rfl) (fun _ _ _ h => h) (Or.inl ⟨by rfl, ?_⟩) (by assumption) ?_
  rotate_left
  · intro w hSw; (try dsimp only at hSw); first | (go_simp; done) | (go_simp; with_reducible rfl)
  try simp only [Act.put, List.setIfInBounds_toArray, List.set_cons_zero, List.set_cons_succ]
  refine wpAnyH_done (by kernel_rfl) ?_ _
  all_goals go_wp2
  all_goals go_ret
  all_goals exact ⟨rfl, HF8.out.below⟩
end Go.Proofs.YtnbmbcjnncbaiaaGreatDoor
