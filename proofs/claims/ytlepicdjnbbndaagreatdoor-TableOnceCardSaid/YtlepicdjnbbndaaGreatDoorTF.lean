/-
  Size, PageOf, alive, TablePrefixes. Conditions: the library's table as its initialiser lays it.
-/
import Derived.Test.YtlepicdjnbbndaaGreatDoorTE
import Derived.IntWalk
import Derived.Test.YtlepicdjnbbndaaGreatDoorTD
/-
  table.Size. Conditions: sizes.
-/
namespace Go.Proofs.YtlepicdjnbbndaaGreatDoor
open Go.RowKit Go.Shelf Go.Sort

theorem prefF_len (p : Int) : (prefF p).length ≤ 2 := by
  unfold prefF
  repeat' split
  all_goals decide
set_option maxHeartbeats 4000000 in
set_option maxRecDepth 100000 in
theorem Size_any (x : EntV) (v : Value) (w : World) (hv : ∃ a n c, v = .slice a n c) (hex : x.ex.length ≤ 1000) (hcn : Lib.countByte x.ex 119 ≤ 1000) :
    Calls Tryz.prog 19 #[entVal x v] w fun e w' => e = .returned (.int .i64 (((prefF x.pg).length : Int) + 1 + (x.ex.length : Int) + (Lib.countByte x.ex 119 : Int))) ∧ Below w.heap.size w w' := by
  obtain ⟨pg, op, iop, args, ex, al⟩ := x
  obtain ⟨va, vn, vc, rfl⟩ := hv
  dsimp only at *
  obtain ⟨exB, hexB⟩ : ∃ b : ByteArray, b = ⟨ex.toArray⟩ := ⟨_, rfl⟩
  have hexs : exB.size = ex.length := by rw [hexB]; show ex.toArray.size = _; rw [List.size_toArray]
  have hct := fun W => Tryz.strings_Count_one exB 119 W
  rw [show exB.data.toList = ex by rw [hexB]] at hct
  have HPF := Lib.hid (fun W => Prefixes_any pg W)
  have hpl := prefF_len pg
  have HB0 := Lib.hid ((Below.refl w.heap.size w).alloc (Nat.le_refl _) (.cells #[.int .i64 pg, .int .u8 op, .string ⟨iop.toArray⟩, .slice va vn vc, .string exB, .bool al] 27))
  have HE0 := Lib.hid (Blk.new w 27 #[.int .i64 pg, .int .u8 op, .string ⟨iop.toArray⟩, .slice va vn vc, .string exB, .bool al])
  rw [← hexs] at hex ⊢
  unfold entVal
  dsimp only
  rw [← hexB]
  have hc4 : (w.alloc (.cells #[.int .i64 pg, .int .u8 op, .string ⟨iop.toArray⟩, .slice va vn vc, .string exB, .bool al] 27)).cell? ⟨w.heap.size, 4, none⟩ = some (.string exB) := HE0.out.cell 4
  have hc0 : (w.alloc (.cells #[.int .i64 pg, .int .u8 op, .string ⟨iop.toArray⟩, .slice va vn vc, .string exB, .bool al] 27)).cell? ⟨w.heap.size, 0, none⟩ = some (.int .i64 pg) := HE0.out.cell 0
  generalize Lib.countByte ex 119 = c at *
  have HCT := Lib.hid hct
  clear hct hexs hexB
  generalize prefF pg = pl at *
  have g1 : IntKind.i64.wrap ((pl.length : Int) + 1) = (pl.length : Int) + 1 := IntWalk.i64_in _ (by omega)
  have g2 : IntKind.i64.wrap ((pl.length : Int) + 1 + (exB.size : Int)) = (pl.length : Int) + 1 + (exB.size : Int) := IntWalk.i64_in _ (by omega)
  have g3 : IntKind.i64.wrap ((pl.length : Int) + 1 + (exB.size : Int) + (c : Int)) = (pl.length : Int) + 1 + (exB.size : Int) + (c : Int) := IntWalk.i64_in _ (by omega)
  clear hex hcn hpl
  have hlw : w.heap.size < (w.alloc (.cells #[.int .i64 pg, .int .u8 op, .string ⟨iop.toArray⟩, .slice va vn vc, .string exB, .bool al] 27)).heap.size := HE0.out.lt
  go_enter Tryz.func19, Tryz.ntmps19
  go_wp2
  generalize (w.alloc (.cells #[.int .i64 pg, .int .u8 op, .string ⟨iop.toArray⟩, .slice va vn vc, .string exB, .bool al] 27)) = w1 at *
  go_region_held3 (fun w' => w'.cell? ⟨w.heap.size, 0, none⟩ = some (.int .i64 pg) ∧ w'.cell? ⟨w.heap.size, 4, none⟩ = some (.string exB)) (go_keep)
    (first
      | (go_at_call 24; refine (HPF.out _).mono ?_; rintro e w2 ⟨v2, rfl, ho, hb⟩; obtain ⟨a2, c2, rfl⟩ := ho.form; have HB1 := Lib.hid (HB0.out.drew.trans (hb.mono (show w.heap.size ≤ w1.heap.size from HB0.out.size))); have d0 : w2.cell? ⟨w.heap.size, 0, none⟩ = some (.int .i64 pg) := (hb.cell (p := ⟨w.heap.size, 0, none⟩) hlw).trans hc0; have d4 : w2.cell? ⟨w.heap.size, 4, none⟩ = some (.string exB) := (hb.cell (p := ⟨w.heap.size, 4, none⟩) hlw).trans hc4; clear ho hb)
      | (go_at_call 55; refine (HCT.out _).mono ?_; rintro e w2 ⟨rfl, rfl⟩))
  go_wp2
  go_ret
  exact ⟨rfl, HB1.out⟩
end Go.Proofs.YtlepicdjnbbndaaGreatDoor

/-
  table.PageOf; breadboardref09.Prefixes. Conditions: none.
-/
namespace Go.Proofs.YtlepicdjnbbndaaGreatDoor
open Go.RowKit Go.Shelf

/-- the first page with these prefixes, from a page on -/
def pageF (l : List UInt8) : Nat → Nat → Option Nat
  | 0, _ => none
  | n + 1, k => if prefF k = l then some k else pageF l n (k + 1)
theorem pageF_step (l : List UInt8) (k : Nat) (hk : k < 7) : pageF l (7 - k) k = if prefF k = l then some k else pageF l (7 - (k + 1)) (k + 1) := by
  rw [show 7 - k = (7 - (k + 1)) + 1 by omega, pageF]
set_option maxHeartbeats 4000000 in
set_option maxRecDepth 100000 in
theorem PageOf_any (p : Blocks) (v : Value) (l : List UInt8) (w : World) (h : SlR byteR w p v l) :
    Calls Tryz.prog 25 #[v] w fun e w' => e = .returned (.tuple #[.int .i64 ((pageF l 7 0).getD 0), .bool (pageF l 7 0).isSome]) ∧ Below w.heap.size w w' := by
  have HPF := Lib.hid (fun k W => Prefixes_any k W)
  have H := Lib.hid h
  obtain ⟨va, vc, rfl⟩ : ∃ a c, v = .slice a l.length c := by obtain ⟨a, c, e, _⟩ := h; exact ⟨a, c, e⟩
  clear h
  obtain ⟨R, hR⟩ : ∃ R, R = pageF l 7 0 := ⟨_, rfl⟩
  rw [← hR]
  go_enter Tryz.func25, Tryz.ntmps25
  go_wp2
  go_loopw [4, 5] (fun _ i wr => ∃ k : Nat, k ≤ 7 ∧ i = .int .i64 k ∧ Below w.heap.size w wr ∧ R = pageF l (7 - k) k) (fun _ i _ => 7 - (intOf i).toNat)
  case atStart => exact ⟨0, Nat.zero_le _, rfl, Below.refl _ _, hR⟩
  case round =>
    clear hR
    obtain ⟨k, hk, rfl, hb, ht⟩ := hrel
    have HB := Lib.hid hb
    by_cases hlt : k < 7
    · rw [pageF_step l k hlt] at ht
      have HEQ := Lib.hid (fun q v1 l1 W (h1 : SlR byteR W q v1 l1) (h2 : SlR byteR W p (.slice va l.length vc) l) => EqualByte_any q p v1 _ l1 l W h1 h2)
      have hpl := HPF.out (k : Int)
      by_cases he : prefF k = l
      · rw [if_pos he] at ht
        have HT := Lib.hid ht
        have HD := Lib.hid he
        have HP := Lib.hid hpl
        generalize prefF (k : Int) = pl at *
        clear ht hb he hpl
        go_wp2_with (first
          | (go_at_call 24; refine (HP.out _).mono ?_; rintro e w2 ⟨v2, rfl, ho, hb⟩; obtain ⟨a2, c2, rfl⟩ := ho.form; have HB2 := Lib.hid (HB.out.trans (hb.mono HB.out.size)); have HS2 := Lib.hid (ho.slR (q := fun _ => True) (fun _ h => h.elim) (fun _ _ => trivial)); clear ho hb)
          | (go_at_call 26; refine (HEQ.out _ _ _ _ HS2.out (H.out.below HB2.out)).mono ?_; rintro e w3 ⟨rfl, nq, rfl⟩; rw [decide_eq_true HD.out]))
        refine bodyPost_ret (results_tmp2 rfl _ _ _) rfl ⟨by rw [HT.out]; rfl, below_dN HB2.out _⟩
      · rw [if_neg he] at ht
        have HT := Lib.hid ht
        have HD := Lib.hid he
        have HP := Lib.hid hpl
        generalize prefF (k : Int) = pl at *
        clear ht hb he hpl
        go_wp2_with (first
          | (go_at_call 24; refine (HP.out _).mono ?_; rintro e w2 ⟨v2, rfl, ho, hb⟩; obtain ⟨a2, c2, rfl⟩ := ho.form; have HB2 := Lib.hid (HB.out.trans (hb.mono HB.out.size)); have HS2 := Lib.hid (ho.slR (q := fun _ => True) (fun _ h => h.elim) (fun _ _ => trivial)); clear ho hb)
          | (go_at_call 26; refine (HEQ.out _ _ _ _ HS2.out (H.out.below HB2.out)).mono ?_; rintro e w3 ⟨rfl, nq, rfl⟩; rw [decide_eq_false HD.out]))
        go_roundw
        case rel => exact ⟨k + 1, by omega, by go_num, below_dN HB2.out _, HT.out⟩
        case measure => simp [intOf]; omega
    · obtain rfl : k = 7 := by omega
      have HT := Lib.hid ht
      clear ht hb
      go_wp2
      refine bodyPost_ret (results_tmp2 rfl _ _ _) rfl ⟨by rw [HT.out]; rfl, HB.out⟩
/-- the reference's prefixes -/
theorem RefPrefixes_any (p : Int) (w : World) :
    Calls Tryz.prog 27 #[.int .i64 p] w fun e w' => ∃ v, e = .returned v ∧ Own byteR w' w.heap.size 5 NoB v (prefF p) ∧ Below w.heap.size w w' := by
  have hal : ∀ c : UInt8, Own byteR (w.alloc (.cells #[.int .u8 c.toNat] 5)) w.heap.size 5 NoB (.slice (some ⟨w.heap.size, 0, none⟩) 1 1) [c] := fun c => Own.lit w _ [c] _ 1 rfl rfl (by simp)
  have hal2 : ∀ c d : UInt8, Own byteR (w.alloc (.cells #[.int .u8 c.toNat, .int .u8 d.toNat] 5)) w.heap.size 5 NoB (.slice (some ⟨w.heap.size, 0, none⟩) 2 2) [c, d] := fun c d => Own.lit w _ [c, d] _ 2 rfl rfl (by simp)
  have hb : ∀ o : Obj, Below w.heap.size w (w.alloc o) := fun o => (Below.refl _ w).alloc (Nat.le_refl _) o
  have HAL := Lib.hid hal
  have HAL2 := Lib.hid hal2
  have HB := Lib.hid hb
  clear hal hb hal2
  by_cases h1 : p = 1
  · subst h1
    go_enter Tryz.func27, Tryz.ntmps27
    go_wp2
    go_ret
    exact ⟨_, rfl, HAL.out 203, HB.out _⟩
  by_cases h2 : p = 2
  · subst h2
    go_enter Tryz.func27, Tryz.ntmps27
    go_wp2
    go_ret
    exact ⟨_, rfl, HAL.out 237, HB.out _⟩
  by_cases h3 : p = 3
  · subst h3
    go_enter Tryz.func27, Tryz.ntmps27
    go_wp2
    go_ret
    exact ⟨_, rfl, HAL.out 221, HB.out _⟩
  by_cases h4 : p = 4
  · subst h4
    go_enter Tryz.func27, Tryz.ntmps27
    go_wp2
    go_ret
    exact ⟨_, rfl, HAL.out 253, HB.out _⟩
  by_cases h5 : p = 5
  · subst h5
    go_enter Tryz.func27, Tryz.ntmps27
    go_wp2
    go_ret
    exact ⟨_, rfl, HAL2.out 221 203, HB.out _⟩
  by_cases h6 : p = 6
  · subst h6
    go_enter Tryz.func27, Tryz.ntmps27
    go_wp2
    go_ret
    exact ⟨_, rfl, HAL2.out 253 203, HB.out _⟩
  have hf : prefF p = [] := by rw [prefF, if_neg h1, if_neg h2, if_neg h3, if_neg h4, if_neg h5, if_neg h6]
  have b1 : (p == 1) = false := by rw [beq_eq_false_iff_ne]; exact h1
  have b2 : (p == 2) = false := by rw [beq_eq_false_iff_ne]; exact h2
  have b3 : (p == 3) = false := by rw [beq_eq_false_iff_ne]; exact h3
  have b4 : (p == 4) = false := by rw [beq_eq_false_iff_ne]; exact h4
  have b5 : (p == 5) = false := by rw [beq_eq_false_iff_ne]; exact h5
  have b6 : (p == 6) = false := by rw [beq_eq_false_iff_ne]; exact h6
  rw [hf]
  clear hf h1 h2 h3 h4 h5 h6
  go_enter Tryz.func27, Tryz.ntmps27
  go_wp2
  go_ret
  exact ⟨_, rfl, Own.nil _ _ _ _ _, Below.refl _ _⟩
end Go.Proofs.YtlepicdjnbbndaaGreatDoor

/-
  breadboardlaw09.alive. Conditions: the library's table as its initialiser lays it.
-/
namespace Go.Proofs.YtlepicdjnbbndaaGreatDoor
open Go.RowKit Go.Shelf Go.Sort

theorem shape7E : shape07 ⟨⟨#[76, 68]⟩, [⟨1, 7, 0⟩, ⟨5, 5, 0⟩]⟩ = ⟨#[76, 68, 32, 65, 44, 40, 73, 88, 43, 100, 41]⟩ := by kernel_rfl
set_option maxHeartbeats 4000000 in
set_option maxRecDepth 100000 in
theorem alive9_any (w : World) (hT : Spc w) : Calls Tryz.prog 14 #[] w fun e w' => e = .returned (.bool true) ∧ Below w.heap.size w w' := by
  have HAT := Lib.hid (at7E w hT)
  have HSH := Lib.hid (fun p v W h hT => shape_any p ⟨⟨#[76, 68]⟩, [⟨1, 7, 0⟩, ⟨5, 5, 0⟩]⟩ v W h hT (by decide))
  have HSI := Lib.hid (fun v W hv => Size_any ⟨3, 126, [76, 68], [⟨1, 7, 0⟩, ⟨5, 5, 0⟩], [100], false⟩ v W hv (by decide) (by decide))
  rw [shape7E] at HSH
  have HT := Lib.hid hT
  clear hT
  go_enter Tryz.func14, Tryz.ntmps14
  go_wp2_with fail
  refine HAT.out.mono ?_
  rintro e w1 ⟨v1, rfl, ho, hb⟩
  obtain ⟨va, vc, rfl⟩ : ∃ a c, v1 = .slice a 2 c := by obtain ⟨a, c, e, _⟩ := ho; exact ⟨a, c, e⟩
  have hE := Blk.new w1 27 #[.int .i64 3, .int .u8 126, .string ⟨#[76, 68]⟩, .slice va 2 vc, .string ⟨#[100]⟩, .bool false]
  have HS1 := Lib.hid (ho.slR.alloc (.cells #[.int .i64 3, .int .u8 126, .string ⟨#[76, 68]⟩, .slice va 2 vc, .string ⟨#[100]⟩, .bool false] 27))
  have HB1 := Lib.hid (hb.alloc hb.size (.cells #[.int .i64 3, .int .u8 126, .string ⟨#[76, 68]⟩, .slice va 2 vc, .string ⟨#[100]⟩, .bool false] 27))
  have HE1 := Lib.hid hE
  have HSZ : Hid (w.heap.size ≤ w1.heap.size) := hb.size
  clear ho hb hE
  go_wp2_with (first
    | (go_at_call 48; refine (HSH.out _ _ _ HS1.out (HT.out.below HB1.out)).mono ?_; rintro e w2 ⟨rfl, hb⟩; have HE2 := Lib.hid (HE1.out.below hb HE1.out.lt); have HB2 := Lib.hid (HB1.out.trans (hb.mono HB1.out.size)); have e0 := HE2.out.cell 0; have e1 := HE2.out.cell 1; have e2 := HE2.out.cell 2; have e3 := HE2.out.cell 3; have e4 := HE2.out.cell 4; have e5 := HE2.out.cell 5; clear hb)
    | (go_at_call 19; refine (HSI.out _ _ ⟨_, _, _, rfl⟩).mono ?_; rintro e w3 ⟨rfl, hb⟩; have HB3 := Lib.hid (HB2.out.trans (hb.mono HB2.out.size)); clear hb))
  go_ret
  exact ⟨rfl, HB3.out⟩
end Go.Proofs.YtlepicdjnbbndaaGreatDoor

/-
  breadboardlaw09.TablePrefixes. Conditions: the library's table as its initialiser lays it.
-/
namespace Go.Proofs.YtlepicdjnbbndaaGreatDoor
open Go.RowKit Go.Shelf Go.Sort

/-- the last page before k with these prefixes -/
def lastF (l : List UInt8) : Nat → Option Nat
  | 0 => none
  | k + 1 => if prefF k = l then some k else lastF l k
theorem last_page (l : List UInt8) : lastF l 7 = pageF l 7 0 := by
  by_cases h0 : prefF ((0 : Nat) : Int) = l
  · subst h0; decide +kernel
  by_cases h1 : prefF ((1 : Nat) : Int) = l
  · subst h1; decide +kernel
  by_cases h2 : prefF ((2 : Nat) : Int) = l
  · subst h2; decide +kernel
  by_cases h3 : prefF ((3 : Nat) : Int) = l
  · subst h3; decide +kernel
  by_cases h4 : prefF ((4 : Nat) : Int) = l
  · subst h4; decide +kernel
  by_cases h5 : prefF ((5 : Nat) : Int) = l
  · subst h5; decide +kernel
  by_cases h6 : prefF ((6 : Nat) : Int) = l
  · subst h6; decide +kernel
  rw [lastF, if_neg h6, lastF, if_neg h5, lastF, if_neg h4, lastF, if_neg h3, lastF, if_neg h2, lastF, if_neg h1, lastF, if_neg h0, lastF]
  rw [pageF, if_neg h0, pageF, if_neg h1, pageF, if_neg h2, pageF, if_neg h3, pageF, if_neg h4, pageF, if_neg h5, pageF, if_neg h6, pageF]
theorem page_pref (p : Int) : ∃ k : Nat, pageF (prefF p) 7 0 = some k ∧ (0 ≤ p → p < 7 → (k : Int) = p) := by
  by_cases h1 : p = 1
  · subst h1; exact ⟨1, by decide +kernel, fun _ _ => rfl⟩
  by_cases h2 : p = 2
  · subst h2; exact ⟨2, by decide +kernel, fun _ _ => rfl⟩
  by_cases h3 : p = 3
  · subst h3; exact ⟨3, by decide +kernel, fun _ _ => rfl⟩
  by_cases h4 : p = 4
  · subst h4; exact ⟨4, by decide +kernel, fun _ _ => rfl⟩
  by_cases h5 : p = 5
  · subst h5; exact ⟨5, by decide +kernel, fun _ _ => rfl⟩
  by_cases h6 : p = 6
  · subst h6; exact ⟨6, by decide +kernel, fun _ _ => rfl⟩
  refine ⟨0, ?_, fun _ _ => by omega⟩
  rw [prefF, if_neg h1, if_neg h2, if_neg h3, if_neg h4, if_neg h5, if_neg h6]
  decide +kernel
set_option maxHeartbeats 4000000 in
set_option maxRecDepth 100000 in
theorem TablePrefixes_any (pg : Int) (hpg : -128 ≤ pg ∧ pg ≤ 127) (p : Blocks) (v : Value) (l : List UInt8) (w : World) (h : SlR byteR w p v l) (hT : Spc w) :
    Calls Tryz.prog 6 #[.int .i8 pg, v] w fun e w' => e = .returned (.bool true) ∧ Below w.heap.size w w' := by
  have HAL := Lib.hid (fun W hT => alive9_any W hT)
  have HT := Lib.hid hT
  have H := Lib.hid h
  obtain ⟨va, vc, rfl⟩ : ∃ a c, v = .slice a l.length c := by obtain ⟨a, c, e, _⟩ := h; exact ⟨a, c, e⟩
  clear h hT
  by_cases hl : l.length > 20
  · have hl2 : (20 : Int) < (l.length : Int) := by omega
    go_enter Tryz.func6, Tryz.ntmps6
    go_wp2_with (first
      | (go_at_call 14; refine (HAL.out _ HT.out).mono ?_; rintro e w2 ⟨rfl, hb⟩; have HB := Lib.hid hb; clear hb))
    go_ret
    exact ⟨rfl, HB.out⟩
  · have hl2 : ¬ (20 : Int) < (l.length : Int) := by omega
    obtain ⟨kp, hkp, hkr⟩ := page_pref pg
    have HPF := Lib.hid (Prefixes_any pg w)
    have HPO := Lib.hid (fun q v W h => PageOf_any q v (prefF pg) W h)
    rw [hkp] at HPO
    simp only [Option.getD_some, Option.isSome_some] at HPO
    have HRP := Lib.hid (fun W => RefPrefixes_any pg W)
    have HRK := Lib.hid (fun k W => RefPrefixes_any k W)
    have HEQ := Lib.hid (fun q v1 l1 q2 v2 l2 W h1 h2 => EqualByte_any q q2 v1 v2 l1 l2 W h1 h2)
    have HPB := Lib.hid (fun W (h : SlR byteR W p (.slice va l.length vc) l) => PageOf_any p _ l W h)
    have HLP := Lib.hid (last_page l)
    obtain ⟨R, hR⟩ : ∃ R, R = pageF l 7 0 := ⟨_, rfl⟩
    rw [← hR] at HPB HLP
    generalize prefF pg = pl at *
    have HKR := Lib.hid hkr
    clear hkr hkp hR
    have hcv : IntKind.i64.wrap pg = pg := IntWalk.i64_in _ (by omega)
    by_cases h0 : 0 ≤ pg
    · by_cases h7 : pg < 7
      · obtain rfl : (kp : Int) = pg := HKR.out h0 h7
        go_enter Tryz.func6, Tryz.ntmps6
        go_wp2_with (first
          | (go_at_call 24; refine HPF.out.mono ?_; rintro e w1 ⟨v1, rfl, ho, hb⟩; obtain ⟨a1, c1, rfl⟩ := ho.form; have HB1 := Lib.hid hb; have HO1 := Lib.hid (ho.slR (q := fun k => w.heap.size ≤ k) (fun _ h => h.elim) (fun _ h => h)); clear ho hb)
          | (go_at_call 25; refine (HPO.out _ _ _ HO1.out).mono ?_; rintro e w2 ⟨rfl, hb⟩; have HB2 := Lib.hid (HB1.out.trans (hb.mono HB1.out.size)); have HO2 := Lib.hid (HO1.out.below hb); clear hb HO1 HB1)
          | (go_at_call 27; refine (HRP.out _).mono ?_; rintro e w3 ⟨v3, rfl, ho, hb⟩; obtain ⟨a3, c3, rfl⟩ := ho.form; have HB3 := Lib.hid (HB2.out.trans (hb.mono HB2.out.size)); have HO3 := Lib.hid (HO2.out.below hb); have HS3 := Lib.hid (ho.slR (q := fun _ => True) (fun _ h => h.elim) (fun _ _ => trivial)); clear ho hb HO2 HB2)
          | (go_at_call 26; refine (HEQ.out _ _ _ _ _ _ _ HO3.out HS3.out).mono ?_; rintro e w4 ⟨rfl, n4, rfl⟩; rw [decide_eq_true (rfl : pl = pl)]; have HB4 := Lib.hid (below_dN HB3.out n4); clear HO3 HS3 HB3)
          | (go_at_call 25; refine (HPB.out _ (H.out.below HB4.out)).mono ?_; rintro e w5 ⟨rfl, hb⟩; have HB5 := Lib.hid (HB4.out.trans (hb.mono HB4.out.size)); clear hb HB4))
        go_loopw [11, 12, 13, 56] (fun a b _ i wr => ∃ k : Nat, k ≤ 7 ∧ i = .int .i64 k ∧ a = .int .i64 ((lastF l k).getD 0) ∧ b = .bool (lastF l k).isSome ∧ Below w.heap.size w wr) (fun _ _ _ i _ => 7 - (intOf i).toNat)
        case atStart => exact ⟨0, Nat.zero_le _, rfl, rfl, rfl, HB5.out⟩
        case round =>
          clear HB5
          obtain ⟨k, hk, rfl, rfl, rfl, hb⟩ := hrel
          have HB := Lib.hid hb
          by_cases hlt : k < 7
          · have hst : lastF l (k + 1) = if prefF k = l then some k else lastF l k := rfl
            have hpl := HRK.out (k : Int)
            clear hb
            by_cases he : prefF k = l
            · rw [if_pos he] at hst
              have HST := Lib.hid hst
              have HD := Lib.hid he
              have HP := Lib.hid hpl
              generalize prefF (k : Int) = pk at *
              generalize (lastF l k) = lk at *
              clear hst he hpl
              go_wp2_with (first
                | (go_at_call 27; refine (HP.out _).mono ?_; rintro e w6 ⟨v6, rfl, ho, hb⟩; obtain ⟨a6, c6, rfl⟩ := ho.form; have HB6 := Lib.hid (HB.out.trans (hb.mono HB.out.size)); have HS6 := Lib.hid (ho.slR (q := fun _ => True) (fun _ h => h.elim) (fun _ _ => trivial)); clear ho hb)
                | (go_at_call 26; refine (HEQ.out _ _ _ _ _ _ _ HS6.out (H.out.below HB6.out)).mono ?_; rintro e w7 ⟨rfl, n7, rfl⟩; rw [decide_eq_true HD.out]))
              go_roundw
              case rel => exact ⟨k + 1, by omega, by go_num, by rw [HST.out]; rfl, by rw [HST.out]; rfl, below_dN HB6.out _⟩
              case measure => simp [intOf]; omega
            · rw [if_neg he] at hst
              have HST := Lib.hid hst
              have HD := Lib.hid he
              have HP := Lib.hid hpl
              generalize prefF (k : Int) = pk at *
              generalize (lastF l k) = lk at *
              clear hst he hpl
              go_wp2_with (first
                | (go_at_call 27; refine (HP.out _).mono ?_; rintro e w6 ⟨v6, rfl, ho, hb⟩; obtain ⟨a6, c6, rfl⟩ := ho.form; have HB6 := Lib.hid (HB.out.trans (hb.mono HB.out.size)); have HS6 := Lib.hid (ho.slR (q := fun _ => True) (fun _ h => h.elim) (fun _ _ => trivial)); clear ho hb)
                | (go_at_call 26; refine (HEQ.out _ _ _ _ _ _ _ HS6.out (H.out.below HB6.out)).mono ?_; rintro e w7 ⟨rfl, n7, rfl⟩; rw [decide_eq_false HD.out]))
              go_roundw
              case rel => exact ⟨k + 1, by omega, by go_num, by rw [HST.out], by rw [HST.out], below_dN HB6.out _⟩
              case measure => simp [intOf]; omega
          · obtain rfl : k = 7 := by omega
            rw [HLP.out]
            generalize R.isSome = rs at *
            generalize R.getD 0 = rv at *
            clear hb
            go_wp2_with (go_at_call 14; refine (HAL.out _ (HT.out.below HB.out)).mono ?_; rintro e w8 ⟨rfl, hb⟩; have HB8 := Lib.hid (HB.out.trans (hb.mono HB.out.size)); clear hb)
            go_ret
            exact ⟨rfl, HB8.out⟩
      · go_enter Tryz.func6, Tryz.ntmps6
        go_wp2_with (first
          | (go_at_call 24; refine HPF.out.mono ?_; rintro e w1 ⟨v1, rfl, ho, hb⟩; obtain ⟨a1, c1, rfl⟩ := ho.form; have HB1 := Lib.hid hb; have HO1 := Lib.hid (ho.slR (q := fun k => w.heap.size ≤ k) (fun _ h => h.elim) (fun _ h => h)); clear ho hb)
          | (go_at_call 25; refine (HPO.out _ _ _ HO1.out).mono ?_; rintro e w2 ⟨rfl, hb⟩; have HB2 := Lib.hid (HB1.out.trans (hb.mono HB1.out.size)); have HO2 := Lib.hid (HO1.out.below hb); clear hb HO1 HB1)
          | (go_at_call 27; refine (HRP.out _).mono ?_; rintro e w3 ⟨v3, rfl, ho, hb⟩; obtain ⟨a3, c3, rfl⟩ := ho.form; have HB3 := Lib.hid (HB2.out.trans (hb.mono HB2.out.size)); have HO3 := Lib.hid (HO2.out.below hb); have HS3 := Lib.hid (ho.slR (q := fun _ => True) (fun _ h => h.elim) (fun _ _ => trivial)); clear ho hb HO2 HB2)
          | (go_at_call 26; refine (HEQ.out _ _ _ _ _ _ _ HO3.out HS3.out).mono ?_; rintro e w4 ⟨rfl, n4, rfl⟩; rw [decide_eq_true (rfl : pl = pl)]; have HB4 := Lib.hid (below_dN HB3.out n4); clear HO3 HS3 HB3)
          | (go_at_call 25; refine (HPB.out _ (H.out.below HB4.out)).mono ?_; rintro e w5 ⟨rfl, hb⟩; have HB5 := Lib.hid (HB4.out.trans (hb.mono HB4.out.size)); clear hb HB4))
        go_loopw [11, 12, 13, 56] (fun a b _ i wr => ∃ k : Nat, k ≤ 7 ∧ i = .int .i64 k ∧ a = .int .i64 ((lastF l k).getD 0) ∧ b = .bool (lastF l k).isSome ∧ Below w.heap.size w wr) (fun _ _ _ i _ => 7 - (intOf i).toNat)
        case atStart => exact ⟨0, Nat.zero_le _, rfl, rfl, rfl, HB5.out⟩
        case round =>
          clear HB5
          obtain ⟨k, hk, rfl, rfl, rfl, hb⟩ := hrel
          have HB := Lib.hid hb
          by_cases hlt : k < 7
          · have hst : lastF l (k + 1) = if prefF k = l then some k else lastF l k := rfl
            have hpl := HRK.out (k : Int)
            clear hb
            by_cases he : prefF k = l
            · rw [if_pos he] at hst
              have HST := Lib.hid hst
              have HD := Lib.hid he
              have HP := Lib.hid hpl
              generalize prefF (k : Int) = pk at *
              generalize (lastF l k) = lk at *
              clear hst he hpl
              go_wp2_with (first
                | (go_at_call 27; refine (HP.out _).mono ?_; rintro e w6 ⟨v6, rfl, ho, hb⟩; obtain ⟨a6, c6, rfl⟩ := ho.form; have HB6 := Lib.hid (HB.out.trans (hb.mono HB.out.size)); have HS6 := Lib.hid (ho.slR (q := fun _ => True) (fun _ h => h.elim) (fun _ _ => trivial)); clear ho hb)
                | (go_at_call 26; refine (HEQ.out _ _ _ _ _ _ _ HS6.out (H.out.below HB6.out)).mono ?_; rintro e w7 ⟨rfl, n7, rfl⟩; rw [decide_eq_true HD.out]))
              go_roundw
              case rel => exact ⟨k + 1, by omega, by go_num, by rw [HST.out]; rfl, by rw [HST.out]; rfl, below_dN HB6.out _⟩
              case measure => simp [intOf]; omega
            · rw [if_neg he] at hst
              have HST := Lib.hid hst
              have HD := Lib.hid he
              have HP := Lib.hid hpl
              generalize prefF (k : Int) = pk at *
              generalize (lastF l k) = lk at *
              clear hst he hpl
              go_wp2_with (first
                | (go_at_call 27; refine (HP.out _).mono ?_; rintro e w6 ⟨v6, rfl, ho, hb⟩; obtain ⟨a6, c6, rfl⟩ := ho.form; have HB6 := Lib.hid (HB.out.trans (hb.mono HB.out.size)); have HS6 := Lib.hid (ho.slR (q := fun _ => True) (fun _ h => h.elim) (fun _ _ => trivial)); clear ho hb)
                | (go_at_call 26; refine (HEQ.out _ _ _ _ _ _ _ HS6.out (H.out.below HB6.out)).mono ?_; rintro e w7 ⟨rfl, n7, rfl⟩; rw [decide_eq_false HD.out]))
              go_roundw
              case rel => exact ⟨k + 1, by omega, by go_num, by rw [HST.out], by rw [HST.out], below_dN HB6.out _⟩
              case measure => simp [intOf]; omega
          · obtain rfl : k = 7 := by omega
            rw [HLP.out]
            generalize R.isSome = rs at *
            generalize R.getD 0 = rv at *
            clear hb
            go_wp2_with (go_at_call 14; refine (HAL.out _ (HT.out.below HB.out)).mono ?_; rintro e w8 ⟨rfl, hb⟩; have HB8 := Lib.hid (HB.out.trans (hb.mono HB.out.size)); clear hb)
            go_ret
            exact ⟨rfl, HB8.out⟩
    · go_enter Tryz.func6, Tryz.ntmps6
      go_wp2_with (first
        | (go_at_call 24; refine HPF.out.mono ?_; rintro e w1 ⟨v1, rfl, ho, hb⟩; obtain ⟨a1, c1, rfl⟩ := ho.form; have HB1 := Lib.hid hb; have HO1 := Lib.hid (ho.slR (q := fun k => w.heap.size ≤ k) (fun _ h => h.elim) (fun _ h => h)); clear ho hb)
        | (go_at_call 25; refine (HPO.out _ _ _ HO1.out).mono ?_; rintro e w2 ⟨rfl, hb⟩; have HB2 := Lib.hid (HB1.out.trans (hb.mono HB1.out.size)); have HO2 := Lib.hid (HO1.out.below hb); clear hb HO1 HB1)
        | (go_at_call 27; refine (HRP.out _).mono ?_; rintro e w3 ⟨v3, rfl, ho, hb⟩; obtain ⟨a3, c3, rfl⟩ := ho.form; have HB3 := Lib.hid (HB2.out.trans (hb.mono HB2.out.size)); have HO3 := Lib.hid (HO2.out.below hb); have HS3 := Lib.hid (ho.slR (q := fun _ => True) (fun _ h => h.elim) (fun _ _ => trivial)); clear ho hb HO2 HB2)
        | (go_at_call 26; refine (HEQ.out _ _ _ _ _ _ _ HO3.out HS3.out).mono ?_; rintro e w4 ⟨rfl, n4, rfl⟩; rw [decide_eq_true (rfl : pl = pl)]; have HB4 := Lib.hid (below_dN HB3.out n4); clear HO3 HS3 HB3)
        | (go_at_call 25; refine (HPB.out _ (H.out.below HB4.out)).mono ?_; rintro e w5 ⟨rfl, hb⟩; have HB5 := Lib.hid (HB4.out.trans (hb.mono HB4.out.size)); clear hb HB4))
      go_loopw [11, 12, 13, 56] (fun a b _ i wr => ∃ k : Nat, k ≤ 7 ∧ i = .int .i64 k ∧ a = .int .i64 ((lastF l k).getD 0) ∧ b = .bool (lastF l k).isSome ∧ Below w.heap.size w wr) (fun _ _ _ i _ => 7 - (intOf i).toNat)
      case atStart => exact ⟨0, Nat.zero_le _, rfl, rfl, rfl, HB5.out⟩
      case round =>
        clear HB5
        obtain ⟨k, hk, rfl, rfl, rfl, hb⟩ := hrel
        have HB := Lib.hid hb
        by_cases hlt : k < 7
        · have hst : lastF l (k + 1) = if prefF k = l then some k else lastF l k := rfl
          have hpl := HRK.out (k : Int)
          clear hb
          by_cases he : prefF k = l
          · rw [if_pos he] at hst
            have HST := Lib.hid hst
            have HD := Lib.hid he
            have HP := Lib.hid hpl
            generalize prefF (k : Int) = pk at *
            generalize (lastF l k) = lk at *
            clear hst he hpl
            go_wp2_with (first
              | (go_at_call 27; refine (HP.out _).mono ?_; rintro e w6 ⟨v6, rfl, ho, hb⟩; obtain ⟨a6, c6, rfl⟩ := ho.form; have HB6 := Lib.hid (HB.out.trans (hb.mono HB.out.size)); have HS6 := Lib.hid (ho.slR (q := fun _ => True) (fun _ h => h.elim) (fun _ _ => trivial)); clear ho hb)
              | (go_at_call 26; refine (HEQ.out _ _ _ _ _ _ _ HS6.out (H.out.below HB6.out)).mono ?_; rintro e w7 ⟨rfl, n7, rfl⟩; rw [decide_eq_true HD.out]))
            go_roundw
            case rel => exact ⟨k + 1, by omega, by go_num, by rw [HST.out]; rfl, by rw [HST.out]; rfl, below_dN HB6.out _⟩
            case measure => simp [intOf]; omega
          · rw [if_neg he] at hst
            have HST := Lib.hid hst
            have HD := Lib.hid he
            have HP := Lib.hid hpl
            generalize prefF (k : Int) = pk at *
            generalize (lastF l k) = lk at *
            clear hst he hpl
            go_wp2_with (first
              | (go_at_call 27; refine (HP.out _).mono ?_; rintro e w6 ⟨v6, rfl, ho, hb⟩; obtain ⟨a6, c6, rfl⟩ := ho.form; have HB6 := Lib.hid (HB.out.trans (hb.mono HB.out.size)); have HS6 := Lib.hid (ho.slR (q := fun _ => True) (fun _ h => h.elim) (fun _ _ => trivial)); clear ho hb)
              | (go_at_call 26; refine (HEQ.out _ _ _ _ _ _ _ HS6.out (H.out.below HB6.out)).mono ?_; rintro e w7 ⟨rfl, n7, rfl⟩; rw [decide_eq_false HD.out]))
            go_roundw
            case rel => exact ⟨k + 1, by omega, by go_num, by rw [HST.out], by rw [HST.out], below_dN HB6.out _⟩
            case measure => simp [intOf]; omega
        · obtain rfl : k = 7 := by omega
          rw [HLP.out]
          generalize R.isSome = rs at *
          generalize R.getD 0 = rv at *
          clear hb
          go_wp2_with (go_at_call 14; refine (HAL.out _ (HT.out.below HB.out)).mono ?_; rintro e w8 ⟨rfl, hb⟩; have HB8 := Lib.hid (HB.out.trans (hb.mono HB.out.size)); clear hb)
          go_ret
          exact ⟨rfl, HB8.out⟩
end Go.Proofs.YtlepicdjnbbndaaGreatDoor
