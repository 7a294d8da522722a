/-
  breadboardlaw05.HexreadReads. Conditions: the library's table as its initialiser lays it.
-/
import Derived.Test.YtcfjcoockklkeaaGreatDoorV40
import Derived.Lib.QuietBelow
namespace Go.Proofs.YtcfjcoockklkeaaGreatDoor
open Go.RowKit Go.Sort

theorem runH_zero : ∀ (L : List (List UInt8)) (i : Nat) (st : ImgS × Bool), (runH i st L).1.2 = 0 → (runH i st L).1.1 = 0
  | [], i, (S, b), h => by
    cases b
    · exact absurd (show (8 : Nat) = 0 from h) (by decide)
    · rfl
  | s :: r, i, st, h => by
    rw [runH] at h ⊢
    split at h
    · rename_i h1
      rw [if_pos h1]
      exact runH_zero r _ _ h
    · rename_i h1
      exact absurd h h1
theorem flt5r_any (a b : Int) (w : World) : Calls Tryz.prog 9 #[.int .i64 a, .int .i64 b] w fun e w' => e = .returned (.agg #[.int .i64 a, .int .i64 b]) ∧ Below w.heap.size w w' := by
  have HB : Hid (Below w.heap.size w (w.alloc (.cells #[.int .i64 a, .int .i64 b] 26))) := (Below.refl _ w).alloc (Nat.le_refl _) _
  go_enter Tryz.func9, Tryz.ntmps9
  go_wp2
  exact bodyPost_ret (v := .agg #[.int .i64 a, .int .i64 b]) (by simp [results, Tryz.results9, go_sem]) rfl ⟨rfl, by first | exact HB.out | exact ((Below.refl w.heap.size w).alloc (Nat.le_refl _) _).setCell (Nat.le_refl _) _⟩
theorem fltEq_same (a b : Int) : fltEq a b a b = true := by simp [fltEq]
theorem Reads_long (s : ByteArray) (w : World) (hs : 5000 < s.size) (hT : Deb w) :
    Calls Tryz.prog 3 #[.string s] w fun e w' => e = .returned (.bool true) ∧ Below w.heap.size w w' := by
  have HAL := Lib.hid (alive5_any _ hT)
  have hs1 : (5000 : Int) < (s.size : Int) := by omega
  clear hs hT
  go_enter Tryz.func3, Tryz.ntmps3
  go_wp2_with (go_at_call 5; refine HAL.out.mono ?_; rintro e w2 ⟨rfl, hb⟩; have HB2 := Lib.hid hb; clear hb)
  go_ret
  exact ⟨rfl, HB2.out⟩
set_option maxHeartbeats 8000000 in
set_option maxRecDepth 100000 in
theorem Reads_good (s : ByteArray) (w : World) (hs : s.size ≤ 5000) (hT : Deb w) (h : (readH s.data.toList).1.2 = 0) :
    Calls Tryz.prog 3 #[.string s] w fun e w' => e = .returned (.bool true) ∧ Below w.heap.size w w' := by
  have HT := Lib.hid hT
  have h0 : (readH s.data.toList).1.1 = 0 := runH_zero _ _ _ h
  have HRD := Lib.hid (Read_good s w (by omega) hT h)
  have HNM := Lib.hid (fun (W : World) (hb : Below w.heap.size w W) => Normal_good s W (by omega) (hT.below hb) h)
  have HAC := Lib.hid (fun (W : World) (hb : Below w.heap.size w W) => Accepts_yes s W (by omega) (hT.below hb) h)
  have HR5 : Hid (∀ W : World, Calls Tryz.prog 7 #[.string s] W fun e w' => ∃ v', e = .returned (.tuple #[v', .int .i64 0, .int .i64 0]) ∧ CelV w' (fun k => W.heap.size ≤ k) v' (cellsOf (readH s.data.toList).2.1.1 (readH s.data.toList).2.1.2) ∧ Below W.heap.size W w') := fun W =>
    (Read05_any s W (by omega)).mono fun e w' ⟨v', h1, h2, _, h3⟩ => ⟨v', by rw [h1, h, h0]; rfl, h2 h, h3⟩
  have HSM := Lib.hid (fun (ib : Nat) (p : Blocks) (cv : Value) (W : World) (hi : ImgC W ib (readH s.data.toList).2.1.1 (readH s.data.toList).2.1.2 (cellsOf (readH s.data.toList).2.1.1 (readH s.data.toList).2.1.2).length) (hc : SlR cellR W p cv (cellsOf (readH s.data.toList).2.1.1 (readH s.data.toList).2.1.2)) (hT : Deb W) => Same2_any ib (readH s.data.toList).2.1 p cv W hi hc hT)
  have HW4 := Lib.hid (fun (p : Blocks) (cv : Value) (W : World) (hc : SlR cellR W p cv (cellsOf (readH s.data.toList).2.1.1 (readH s.data.toList).2.1.2)) => Write04_any p cv _ _ W hc (Nat.le_trans (cellsOf_len _ _) (by omega)) cells_low (runs02_of _ _) (runs_sep _ _) (runs_len _ _))
  have hs1 : (s.size : Int) ≤ 5000 := by omega
  clear hs hT h h0
  generalize (readH s.data.toList).2.1 = S at *
  generalize (⟨(textOf 16 (runsOf S.1 S.2)).toArray⟩ : ByteArray) = txt at *
  go_enter Tryz.func3, Tryz.ntmps3
  go_wp2_with (first
    | (go_at_call 6; refine HRD.out.mono ?_; rintro e w1 ⟨ib, rfl, _, hi, hb⟩; have hal := (Below.refl w1.heap.size w1).alloc (Nat.le_refl _) (.cells #[.int .i64 0, .int .i64 0] 26); have HK1 := Lib.hid (Blk.new w1 26 #[.int .i64 0, .int .i64 0]); have HI1 := Lib.hid (hi.below hal hi.lt); have HB1 := Lib.hid (hb.trans (hal.mono hb.size)); clear hal hi hb)
    | (go_at_call 7; refine (HR5.out _).mono ?_; rintro e w2 ⟨cv, rfl, hc, hb⟩; have HK2 := Lib.hid (HK1.out.below hb HK1.out.lt); have HI2 := Lib.hid (HI1.out.below hb HI1.out.lt); have HC2 := Lib.hid hc.sl; have HB2 := Lib.hid (HB1.out.trans (hb.mono HB1.out.size)); clear hb hc)
    | (go_at_call 8; refine (HNM.out _ HB2.out).mono ?_; rintro e w3 ⟨rfl, hb⟩; have hal := (Below.refl w3.heap.size w3).alloc (Nat.le_refl _) (.cells #[.int .i64 0, .int .i64 0] 26); have HL3 := Lib.hid (Blk.new w3 26 #[.int .i64 0, .int .i64 0]); have HK3 := Lib.hid ((HK2.out.below hb HK2.out.lt).below hal (Nat.lt_of_lt_of_le HK2.out.lt hb.size)); have HI3 := Lib.hid ((HI2.out.below hb HI2.out.lt).below hal (Nat.lt_of_lt_of_le HI2.out.lt hb.size)); have HC3 := Lib.hid ((HC2.out.below hb).below hal); have HB3 := Lib.hid ((HB2.out.trans (hb.mono HB2.out.size)).trans (hal.mono (HB2.out.trans (hb.mono HB2.out.size)).size)); clear hb hal))
  have HKr : ∀ d os, (grow (redrawn (w3.alloc (.cells #[.int .i64 0, .int .i64 0] 26)) d) os).cell? ⟨w1.heap.size, 0, none⟩ = some (.int .i64 0) := fun d os => cell_regrown HK3.out.two.1 d os
  have HKr1 : ∀ d os, (grow (redrawn (w3.alloc (.cells #[.int .i64 0, .int .i64 0] 26)) d) os).cell? ⟨w1.heap.size, 1, none⟩ = some (.int .i64 0) := fun d os => cell_regrown HK3.out.two.2.1 d os
  have HLr : ∀ d os, (grow (redrawn (w3.alloc (.cells #[.int .i64 0, .int .i64 0] 26)) d) os).cell? ⟨w3.heap.size, 0, none⟩ = some (.int .i64 0) := fun d os => cell_regrown HL3.out.two.1 d os
  have HLr1 : ∀ d os, (grow (redrawn (w3.alloc (.cells #[.int .i64 0, .int .i64 0] 26)) d) os).cell? ⟨w3.heap.size, 1, none⟩ = some (.int .i64 0) := fun d os => cell_regrown HL3.out.two.2.1 d os
  generalize w3.alloc (.cells #[.int .i64 0, .int .i64 0] 26) = wA at *
  generalize w3.heap.size = tb3 at *
  generalize w1.heap.size = tb1 at *
  have HAC2 : Hid (∀ d os, Calls Tryz.prog 10 #[.string s] (grow (redrawn wA d) os) fun e w' => e = .returned (.bool true) ∧ Below (grow (redrawn wA d) os).heap.size (grow (redrawn wA d) os) w') := fun d os => HAC.out _ (HB3.out.trans ((below_regrown wA d os).mono HB3.out.size))
  have HFL : Hid (∀ d os, Calls Tryz.prog 9 #[.int .i64 0, .int .i64 0] (grow (redrawn wA d) os) fun e w' => e = .returned (.agg #[.int .i64 0, .int .i64 0]) ∧ Below (grow (redrawn wA d) os).heap.size (grow (redrawn wA d) os) w') := fun d os => flt5r_any _ _ _
  have hop2 : ∀ W : World, (binOp .neq 26 (.agg #[.int .i64 0, .int .i64 0]) (.agg #[.int .i64 0, .int .i64 0])).run Tryz.prog W = .ok (.bool false) W := fun W => by rw [run_neqFlt]; rfl
  clear HK1 HK2 HK3 HL3
  refine wp_region_quiet_below (by kernel_rfl) (by kernel_rfl) ?_
  repeat (go_big_quiet_step (first | exact Calls.regrown_of (HAC2.out _ _) | exact Calls.regrown_of (HFL.out _ _)))
  refine wpQuiet_nil ?_
  intro _ hw'
  obtain ⟨⟨dq, osq⟩, hw''⟩ := hw'
  subst hw''
  have HI4 := Lib.hid (HI3.out.below (below_regrown wA dq osq) HI3.out.lt)
  have HC4 := Lib.hid (HC3.out.below (below_regrown wA dq osq))
  have HB4 := Lib.hid (HB3.out.trans ((below_regrown wA dq osq).mono HB3.out.size))
  clear HKr HKr1 HLr HLr1 HB3 HI3 HC3
  show Exit.then _ _ Exit.normal _ (grow (redrawn wA dq) osq)
  generalize grow (redrawn wA dq) osq = wB at *
  go_wp2_with (first
    | (go_at_call 5; refine (alive5_any _ (HT.out.below HB4.out)).mono ?_; rintro e w6 ⟨rfl, hb⟩; have HI5 := Lib.hid (HI4.out.below hb HI4.out.lt); have HC5 := Lib.hid (HC4.out.below hb); have HB5 := Lib.hid (HB4.out.trans (hb.mono HB4.out.size)); clear hb)
    | (go_at_call 11; refine (HSM.out _ _ _ _ HI5.out HC5.out (HT.out.below HB5.out)).mono ?_; rintro e w7 ⟨rfl, hb⟩; have HC6 := Lib.hid (HC5.out.below hb); have HB6 := Lib.hid (HB5.out.trans (hb.mono HB5.out.size)); clear hb)
    | (go_at_call 12; refine (HW4.out _ _ _ HC6.out).mono ?_; rintro e w8 ⟨rfl, hb⟩; have HB7 := Lib.hid (HB6.out.trans (hb.mono HB6.out.size)); clear hb))
  go_ret
  exact ⟨rfl, HB7.out⟩
set_option maxHeartbeats 8000000 in
set_option maxRecDepth 100000 in
theorem Reads_bad (s : ByteArray) (w : World) (hs : s.size ≤ 5000) (hT : Deb w) (h : (readH s.data.toList).1.2 ≠ 0) :
    Calls Tryz.prog 3 #[.string s] w fun e w' => e = .returned (.bool true) ∧ Below w.heap.size w w' := by
  have HT := Lib.hid hT
  have HRD := Lib.hid (Read_bad s w (by omega) hT h)
  have HNM := Lib.hid (fun (W : World) (hb : Below w.heap.size w W) => Normal_bad s W (by omega) (hT.below hb) h)
  have HAC := Lib.hid (fun (W : World) (hb : Below w.heap.size w W) => Accepts_no s W (by omega) (hT.below hb) h)
  have HR5 : Hid (∀ W : World, Calls Tryz.prog 7 #[.string s] W fun e w' => e = .returned (.tuple #[.slice none 0 0, .int .i64 (readH s.data.toList).1.1, .int .i64 (readH s.data.toList).1.2]) ∧ Below W.heap.size W w') := fun W =>
    (Read05_any s W (by omega)).mono fun e w' ⟨v', h1, _, h2, h3⟩ => ⟨by rw [h1, h2 h], h3⟩
  have hs1 : (s.size : Int) ≤ 5000 := by omega
  have hne : (((readH s.data.toList).1.2 : Int) != 0) = true := by rw [bne_iff_ne]; omega
  have hne3 : (((readH s.data.toList).1.2 : Int) == 0) = false := by rw [beq_eq_false_iff_ne]; omega
  have hne2 : ¬ (((readH s.data.toList).1.2 : Int) = 0) := by omega
  clear hs hT h
  generalize ((readH s.data.toList).1.1 : Int) = LN at *
  generalize ((readH s.data.toList).1.2 : Int) = C at *
  have he := fltEq_same LN C
  go_enter Tryz.func3, Tryz.ntmps3
  go_wp2_with (first
    | (go_at_call 6; refine HRD.out.mono ?_; rintro e w1 ⟨rfl, hb⟩; have hal := (Below.refl w1.heap.size w1).alloc (Nat.le_refl _) (.cells #[.int .i64 LN, .int .i64 C] 26); have HK1 := Lib.hid (Blk.new w1 26 #[.int .i64 LN, .int .i64 C]); have HB1 := Lib.hid (hb.trans (hal.mono hb.size)); clear hal hb)
    | (go_at_call 7; refine (HR5.out _).mono ?_; rintro e w2 ⟨rfl, hb⟩; have HK2 := Lib.hid (HK1.out.below hb HK1.out.lt); have HB2 := Lib.hid (HB1.out.trans (hb.mono HB1.out.size)); clear hb)
    | (go_at_call 8; refine (HNM.out _ HB2.out).mono ?_; rintro e w3 ⟨rfl, hb⟩; have hal := (Below.refl w3.heap.size w3).alloc (Nat.le_refl _) (.cells #[.int .i64 LN, .int .i64 C] 26); have HL3 := Lib.hid (Blk.new w3 26 #[.int .i64 LN, .int .i64 C]); have HK3 := Lib.hid ((HK2.out.below hb HK2.out.lt).below hal (Nat.lt_of_lt_of_le HK2.out.lt hb.size)); have HB3 := Lib.hid ((HB2.out.trans (hb.mono HB2.out.size)).trans (hal.mono (HB2.out.trans (hb.mono HB2.out.size)).size)); clear hb hal))
  have HKr : ∀ d os, (grow (redrawn (w3.alloc (.cells #[.int .i64 LN, .int .i64 C] 26)) d) os).cell? ⟨w1.heap.size, 0, none⟩ = some (.int .i64 LN) := fun d os => cell_regrown HK3.out.two.1 d os
  have HKr1 : ∀ d os, (grow (redrawn (w3.alloc (.cells #[.int .i64 LN, .int .i64 C] 26)) d) os).cell? ⟨w1.heap.size, 1, none⟩ = some (.int .i64 C) := fun d os => cell_regrown HK3.out.two.2.1 d os
  have HLr : ∀ d os, (grow (redrawn (w3.alloc (.cells #[.int .i64 LN, .int .i64 C] 26)) d) os).cell? ⟨w3.heap.size, 0, none⟩ = some (.int .i64 LN) := fun d os => cell_regrown HL3.out.two.1 d os
  have HLr1 : ∀ d os, (grow (redrawn (w3.alloc (.cells #[.int .i64 LN, .int .i64 C] 26)) d) os).cell? ⟨w3.heap.size, 1, none⟩ = some (.int .i64 C) := fun d os => cell_regrown HL3.out.two.2.1 d os
  generalize (w3.alloc (.cells #[.int .i64 LN, .int .i64 C] 26)) = wA at *
  generalize w3.heap.size = tb3 at *
  generalize w1.heap.size = tb1 at *
  have HAC2 : Hid (∀ d os, Calls Tryz.prog 10 #[.string s] (grow (redrawn wA d) os) fun e w' => e = .returned (.bool false) ∧ Below (grow (redrawn wA d) os).heap.size (grow (redrawn wA d) os) w') := fun d os => HAC.out _ (HB3.out.trans ((below_regrown wA d os).mono HB3.out.size))
  have HFL : Hid (∀ d os, Calls Tryz.prog 9 #[.int .i64 LN, .int .i64 C] (grow (redrawn wA d) os) fun e w' => e = .returned (.agg #[.int .i64 LN, .int .i64 C]) ∧ Below (grow (redrawn wA d) os).heap.size (grow (redrawn wA d) os) w') := fun d os => flt5r_any _ _ _
  have hop2 : ∀ W : World, (binOp .neq 26 (.agg #[.int .i64 LN, .int .i64 C]) (.agg #[.int .i64 LN, .int .i64 C])).run Tryz.prog W = .ok (.bool false) W := fun W => by rw [run_neqFlt, he]; rfl
  clear HK1 HK2 HK3 HL3 he
  refine wp_region_quiet_below (by kernel_rfl) (by kernel_rfl) ?_
  repeat (go_big_quiet_step (first | exact Calls.regrown_of (HAC2.out _ _) | exact Calls.regrown_of (HFL.out _ _)))
  refine wpQuiet_nil ?_
  intro _ hw'
  obtain ⟨⟨dq, osq⟩, hw''⟩ := hw'
  subst hw''
  have HB4 := Lib.hid (HB3.out.trans ((below_regrown wA dq osq).mono HB3.out.size))
  clear HKr HKr1 HLr HLr1 HB3
  show Exit.then _ _ Exit.normal _ (grow (redrawn wA dq) osq)
  generalize grow (redrawn wA dq) osq = wB at *
  go_wp2_with (go_at_call 5; refine (alive5_any _ (HT.out.below HB4.out)).mono ?_; rintro e w6 ⟨rfl, hb⟩; have HB5 := Lib.hid (HB4.out.trans (hb.mono HB4.out.size)); clear hb)
  go_ret
  exact ⟨rfl, HB5.out⟩
theorem Reads_any (s : ByteArray) (w : World) (hT : Deb w) :
    Calls Tryz.prog 3 #[.string s] w fun e w' => e = .returned (.bool true) ∧ Below w.heap.size w w' := by
  by_cases hs : s.size ≤ 5000
  · by_cases h : (readH s.data.toList).1.2 = 0
    · exact Reads_good s w hs hT h
    · exact Reads_bad s w hs hT h
  · exact Reads_long s w (by omega) hT
end Go.Proofs.YtcfjcoockklkeaaGreatDoor
