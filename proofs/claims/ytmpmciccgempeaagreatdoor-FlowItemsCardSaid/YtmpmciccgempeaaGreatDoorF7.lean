/-
  flow.Next at the chapter's example, breadboardlaw14.alive. Conditions: the library's table as its initialiser lays it.
-/
import Derived.Test.YtmpmciccgempeaaGreatDoorF3
import Derived.Test.YtmpmciccgempeaaGreatDoorBA5
import Derived.Test.YtmpmciccgempeaaGreatDoorBB1
import Derived.Test.YtmpmciccgempeaaGreatDoorBA1
import Derived.Test.YtmpmciccgempeaaGreatDoorBC1
import Derived.Test.YtmpmciccgempeaaGreatDoorBD1
import Derived.Test.YtmpmciccgempeaaGreatDoorBR1
import Derived.Test.YtmpmciccgempeaaGreatDoorChecked
import Derived.Test.YtmpmciccgempeaaGreatDoorBA4
import Derived.Test.YtmpmciccgempeaaGreatDoorShelf
import Derived.Test.YtmpmciccgempeaaGreatDoorBA2
import Derived.Test.YtmpmciccgempeaaGreatDoorBA3
import Derived.Test.YtmpmciccgempeaaGreatDoorBT1
import Derived.Test.YtmpmciccgempeaaGreatDoorBA7
import Derived.Test.YtmpmciccgempeaaGreatDoorBB2
import Derived.Test.YtmpmciccgempeaaGreatDoorBA6
import Derived.Test.YtmpmciccgempeaaGreatDoorBA8
namespace Go.Proofs.YtmpmciccgempeaaGreatDoor
open Go.RowKit Go.Shelf Go.Sort

theorem elIntF : ElT Tryz.prog 92 3 oO.size 8 := ElT.mk' (z := .int .i64 0) Tryz.underlying92 (by kernel_rfl) rfl (by decide)
def insF0 : Ins := ⟨⟨#[74, 82]⟩, [⟨8, 0, 0⟩, ⟨10, 0, 3⟩]⟩
theorem kindF0 : KindF insF0 = 1 := by decide +kernel
theorem somF0 : SomF insF0 = true := by decide +kernel
theorem tgtF0 : TgtF 100 insF0 = (105, true) := by decide +kernel
theorem argF0 : (legC insF0).args = [⟨8, 0, 0⟩, ⟨10, 0, 3⟩] := by decide +kernel
theorem numF0 : ∀ o ∈ (legC insF0).args, -70000 ≤ o.n ∧ o.n ≤ 70000 := by
  rw [argF0]
  intro o ho
  simp at ho
  rcases ho with rfl | rfl <;> exact ⟨by decide, by decide⟩
theorem mildF0 : CV insF0 := ⟨by decide, by decide, by intro y hy; simp [insF0] at hy; rcases hy with rfl | rfl <;> exact ⟨by decide, by decide⟩⟩
theorem upperF0 : dG ⟨#[74, 82]⟩ = ⟨#[74, 82]⟩ := by decide +kernel
set_option maxHeartbeats 4000000 in
set_option maxRecDepth 100000 in
theorem Next_ex (ra : Option Addr) (rc : Nat) (va : Option Addr) (vc : Nat) (p : aB) (w : World) (hT : Spc w) (h : SlR aM w p (.slice va 2 vc) insF0.args) :
    Calls Tryz.prog 65 #[.int .i64 100, .agg #[.int .i64 1, .slice ra 2 rc, .string ⟨#[74, 82]⟩, .slice va 2 vc, .bool false]] w fun e w' => (∃ v, e = .returned v ∧ Own oO w' w.heap.size 3 NoB v [102, 105]) ∧ RowKit.Below w.heap.size w w' := by
  have HTG := aA (fun W (hb : RowKit.Below w.heap.size w W) => Target_any 100 insF0 mildF0 numF0 p _ W (h.below hb) (hT.below hb))
  have HKI := aA (fun W (hb : RowKit.Below w.heap.size w W) => Kind_any insF0 mildF0 p _ W (h.below hb) (hT.below hb))
  have HSO := aA (fun W (hb : RowKit.Below w.heap.size w W) => Som_any insF0 mildF0 p _ W (h.below hb) (hT.below hb))
  rw [tgtF0] at HTG
  rw [kindF0] at HKI
  rw [somF0] at HSO
  rw [show insF0.op = ⟨#[74, 82]⟩ from rfl] at HTG HKI HSO
  have HFI := aA (fun b W h => sV 0 65535 100 b W h)
  rw [show bG 0 65535 100 = true by decide] at HFI
  have HF0 := aA ((Fr.start w).new 34 #[.int .i64 1, .slice ra 2 rc, .string ⟨#[74, 82]⟩, .slice va 2 vc, .bool false])
  obtain ⟨W0, hW0⟩ : ∃ W : World, W = w.alloc (.cells #[.int .i64 1, .slice ra 2 rc, .string ⟨#[74, 82]⟩, .slice va 2 vc, .bool false] 34) := ⟨_, rfl⟩
  rw [← hW0] at HF0
  clear h hT
  go_enter Tryz.func65, Tryz.ntmps65
  go_upto_region 1 with fail
  rw [← hW0]
  clear hW0
  go_upto_region 3 with (go_at_call 66; refine (HFI.out _ _ (Blk.cell (Blk.new W0 _ _) 0)).mono ?_; rintro e w1 ⟨rfl, hw1⟩; subst hw1)
  have HF1 := aA (HF0.out.alloc (.cells #[.int .i64 100] 3))
  obtain ⟨W1, hW1⟩ : ∃ W : World, W = W0.alloc (.cells #[.int .i64 100] 3) := ⟨_, rfl⟩
  rw [← hW1] at HF1 ⊢
  clear hW1 HF0
  have d0 := (HF1.out.blk 0 rfl).cell 0
  have d1 := (HF1.out.blk 0 rfl).cell 1
  have d2 := (HF1.out.blk 0 rfl).cell 2
  have d3 := (HF1.out.blk 0 rfl).cell 3
  go_upto_region 13 with (first
    | (go_at_call 15; (with_reducible refine (HTG.out _ HF1.out.below).mono ?_); rintro e w2 ⟨rfl, hb⟩; have HF2 := aA (HF1.out.next hb); clear hb d0 d1 d2 d3; have d2 := (HF2.out.blk 0 rfl).cell 2; have d3 := (HF2.out.blk 0 rfl).cell 3)
    | (go_at_call 17; (with_reducible refine (HKI.out _ HF2.out.below).mono ?_); rintro e w3 ⟨rfl, hb⟩; have HF3 := aA (HF2.out.next hb); clear hb d2 d3))
  have d2 := (HF3.out.blk 0 rfl).cell 2
  have d3 := (HF3.out.blk 0 rfl).cell 3
  go_upto_region 15 with (go_at_call 19; (with_reducible refine (HSO.out _ HF3.out.below).mono ?_); rintro e w4 ⟨rfl, hb⟩; have HF4 := aA (HF3.out.next hb); clear hb d2 d3)
  go_upto_region 16 with (at_builtin; refine cK rfl (.tmp 50) (.tmp 52) 92 rfl w.heap.size 3 8 elIntF _ [] (102 : Int) _ rfl rfl (Own.nil oO _ _ _ _) rfl (by decide) (by decide) HF4.out.below.size ?_; intro a' c' w5 hp; have HP := aA hp; have HB5 : Hid (RowKit.Below w.heap.size w w5) := aA (HF4.out.below.grown hp.2 HF4.out.below.size (fun j hj => by cases hj)); clear hp)
  have HO5 : Hid (Own oO w5 w.heap.size 3 NoB (.slice a' 1 c') [102]) := aA HP.out.1
  have HCT : Hid (Calls Tryz.prog 123 #[.slice a' 1 c', .int .i64 105] w5 fun e w' => e = .returned (.bool false) ∧ w' = w5) := aA (by
    obtain ⟨a9, c9, e9, _, _, hg⟩ := (HO5.out.slR (q := fun _ => True) (fun _ h => h.elim) (fun _ _ => trivial)).int
    injection e9 with e1 e2 e3
    obtain ⟨b, o, e4, _, hc⟩ := hg 0 102 rfl
    rw [e1, e4]
    refine (Tryz.slices_Contains_int b o 1 c' [102] 105 w5 (by decide) (by decide) (fun j hj => ?_)).mono ?_
    · match j, hj with
      | 0, _ => exact hc
      | j + 1, hj => exact absurd hj (by simp)
    · rintro e w' ⟨rfl, rfl⟩
      exact ⟨rfl, rfl⟩)
  go_upto_region 17 with (go_at_call 123; refine HCT.out.mono ?_; rintro e w6 ⟨rfl, rfl⟩)
  go_wp2_with (at_builtin; refine cK rfl (.tmp 61) (.tmp 63) 92 rfl w.heap.size 3 8 elIntF _ [102] (105 : Int) _ rfl rfl HO5.out rfl (by decide) (by decide) HB5.out.size ?_; intro a2 c2 w7 hp; have HP7 := aA hp; clear hp)
  go_ret
  exact ⟨⟨_, rfl, HP7.out.1⟩, HB5.out.grown HP7.out.2 HB5.out.size (fun j hj => (HO5.out.lt j hj).1)⟩
theorem lit2F (W : World) : SlR oO (W.alloc (.cells #[.int .i64 102, .int .i64 105] 3)) (fun _ => True) (.slice (some ⟨W.heap.size, 0, none⟩) 2 2) [102, 105] := fS W _ _ [102, 105] _ 2 rfl rfl (by decide) (fun _ _ => trivial)
theorem slR_opdF (w : World) (q : aB) (l : List Opd) (cs : Array Value) (m : Nat) (hm : m = l.length) (hcs : cs.toList = l.flatMap Opd.cells) (hl : l.length ≤ 1000000) (hq : ∀ k, w.heap.size ≤ k → q k) :
    SlR aM (w.alloc (.cells cs 90)) q (.slice (some ⟨w.heap.size, 0, none⟩) m m) l := fS w _ q l cs m hm hcs hl hq
set_option maxHeartbeats 8000000 in
set_option maxRecDepth 100000 in
theorem alive14_any (w : World) (hT : Spc w) : Calls Tryz.prog 14 #[] w fun e w' => e = .returned (.bool true) ∧ RowKit.Below w.heap.size w w' := by
  have HT := aA hT
  have HM := aA (fun p v W h => mC p ⟨#[74, 82]⟩ v [⟨8, 0, 0⟩, ⟨10, 0, 3⟩] W h (by decide) (by decide))
  rw [upperF0] at HM
  clear hT
  have HX1 := aA (HM.out _ _ _ (slR_opdF w (fun _ => True) [⟨8, 0, 0⟩, ⟨10, 0, 3⟩] #[.int .i64 8, .int .i64 0, .int .i64 0, .int .i64 10, .int .i64 0, .int .i64 3] 2 rfl rfl (by decide) (fun _ _ => trivial)))
  have HA := aA ((Fr.start w).alloc (.cells #[.int .i64 8, .int .i64 0, .int .i64 0, .int .i64 10, .int .i64 0, .int .i64 3] 90))
  go_enter Tryz.func14, Tryz.ntmps14
  go_upto_region 2 with (go_at_call 63; refine HX1.out.mono ?_; rintro e w1 ⟨v1, rfl, ho1, hb1⟩; obtain ⟨a1, c1, rfl⟩ := ho1.form; have HO1 := aA ((Own.slR (q := fun _ => True) ho1 (fun _ h => h.elim) (fun _ _ => trivial)).alloc (.cells #[.string ⟨#[74, 82]⟩, .slice a1 2 c1] 24)); have HB1 := aA ((HA.out.next hb1).new' 24 #[.string ⟨#[74, 82]⟩, .slice a1 2 c1] (b := w1.heap.size) rfl); clear hb1 ho1)
  obtain ⟨W1, hW1⟩ : ∃ W : World, W = w1.alloc (.cells #[.string ⟨#[74, 82]⟩, .slice a1 2 c1] 24) := ⟨_, rfl⟩
  dsimp only [List.length_cons, List.length_nil] at HO1
  rw [← hW1] at HB1 HO1 ⊢
  clear hW1
  generalize w1.heap.size = b1 at *
  obtain ⟨e0, e1⟩ := (HB1.out.blk 0 rfl).pair
  have HNX := aA (fun ra rc W (hb : RowKit.Below W1.heap.size W1 W) => Next_ex ra rc a1 c1 (fun _ => True) W ((HT.out.below HB1.out.below).below hb) (HO1.out.below hb))
  have HKI := aA (fun W (hb : RowKit.Below W1.heap.size W1 W) => Kind_any insF0 mildF0 (fun _ => True) (.slice a1 2 c1) W (HO1.out.below hb) ((HT.out.below HB1.out.below).below hb))
  have HSO := aA (fun W (hb : RowKit.Below W1.heap.size W1 W) => Som_any insF0 mildF0 (fun _ => True) (.slice a1 2 c1) W (HO1.out.below hb) ((HT.out.below HB1.out.below).below hb))
  rw [kindF0] at HKI
  rw [somF0] at HSO
  rw [show insF0.op = ⟨#[74, 82]⟩ from rfl] at HKI HSO
  have HQ := aA (fun p q v1 v2 l1 l2 W h1 h2 => YF p q v1 v2 l1 l2 W h1 h2)
  have HBA : Hid (RowKit.Below W1.heap.size W1 (W1.alloc (.cells #[.int .u8 32, .int .u8 3] 5))) := (Below.refl _ _).alloc (Nat.le_refl _) _
  obtain ⟨f0, f1⟩ := ((HB1.out.alloc (.cells #[.int .u8 32, .int .u8 3] 5)).blk 0 rfl).pair
  go_wp2_with (first
    | (go_at_call 65; refine (HNX.out _ _ _ HBA.out).mono ?_; rintro e w2 ⟨⟨v2, rfl, ho⟩, hb⟩; obtain ⟨na, nc, rfl⟩ := ho.form; have HN2 := aA ((ho.slR (q := fun _ => True) (fun _ h => h.elim) (fun _ _ => trivial)).alloc (.cells #[.int .i64 102, .int .i64 105] 3)); have HN3 := aA (lit2F w2); have HB2 := aA (HBA.out.trans (hb.mono HBA.out.size)); have HF2 := aA ((HB1.out.next HB2.out).alloc (.cells #[.int .i64 102, .int .i64 105] 3)); clear hb ho)
    | (go_at_call 64; refine (HQ.out _ _ _ _ [102, 105] [102, 105] _ HN2.out HN3.out).mono ?_; rw [decide_eq_true rfl]; rintro e w3 ⟨rfl, n3, hw3⟩; have HF3 := aA (show Fr w _ w3 from hw3 ▸ HF2.out.drewN n3); have HB3 : Hid (RowKit.Below W1.heap.size W1 w3) := aA (hw3 ▸ aY (HB2.out.alloc HB2.out.size _) n3); clear hw3 e0 e1; obtain ⟨e0, e1⟩ := (HF3.out.blk 0 rfl).pair)
    | (go_at_call 17; (with_reducible refine (HKI.out _ HB3.out).mono ?_); rintro e w4 ⟨rfl, hb⟩; have HF4 := aA (HF3.out.next hb); have HB4 := aA (HB3.out.trans (hb.mono HB3.out.size)); clear hb e0 e1; obtain ⟨e0, e1⟩ := (HF4.out.blk 0 rfl).pair)
    | (go_at_call 19; (with_reducible refine (HSO.out _ HB4.out).mono ?_); rintro e w5 ⟨rfl, hb⟩; have HF5 := aA (HF4.out.next hb); clear hb))
  go_ret
  exact ⟨rfl, HF5.out.below⟩
end Go.Proofs.YtmpmciccgempeaaGreatDoor
