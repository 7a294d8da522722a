/-
  Law of chapter 14, FlowKinds. Conditions: the library's table as its initialiser lays it.
-/
import Derived.Test.YtmpmciccgempeaaGreatDoorF6
import Derived.Test.YtmpmciccgempeaaGreatDoorF7
namespace Go.Proofs.YtmpmciccgempeaaGreatDoor
open Go.RowKit Go.Shelf Go.Sort

set_option maxHeartbeats 8000000 in
set_option maxRecDepth 100000 in
theorem FlowKinds_law (addr : Int) (x : Ins) (p : aB) (v : Value) (w : World) (h : SlR aM w p v x.args) (hT : Spc w) (fx : ∀ z ∈ x.args, cN z.n) :
    Calls Tryz.prog 3 #[.int .i64 addr, .agg #[.string x.op, v]] w fun e w' => e = .returned (.bool true) ∧ RowKit.Below w.heap.size w w' := by
  have HAL := aA (fun W (hb : RowKit.Below w.heap.size w W) => alive14_any W (hT.below hb))
  obtain ⟨xa, xc, rfl⟩ : ∃ a c, v = .slice a x.args.length c := by obtain ⟨a, c, e, _⟩ := h; exact ⟨a, c, e⟩
  have HC := aA ((Fr.start w).new 24 #[.string x.op, .slice xa x.args.length xc])
  obtain ⟨W0, hW0⟩ : ∃ W : World, W = w.alloc (.cells #[.string x.op, .slice xa x.args.length xc] 24) := ⟨_, rfl⟩
  rw [← hW0] at HC
  by_cases h1 : (100 : Int) < (x.op.size : Int)
  · clear h hT fx
    go_enter Tryz.func3, Tryz.ntmps3
    go_upto_region 1 with fail
    rw [← hW0]
    clear hW0
    obtain ⟨e0, e1⟩ := (HC.out.blk 0 rfl).pair
    go_wp2_with (go_at_call 14; refine (HAL.out _ HC.out.below).mono ?_; rintro e w9 ⟨rfl, hb⟩; have H9 := aA (HC.out.next hb); clear hb)
    go_ret
    exact ⟨rfl, H9.out.below⟩
  by_cases h2 : (20 : Int) < (x.args.length : Int)
  · clear h hT fx
    go_enter Tryz.func3, Tryz.ntmps3
    go_upto_region 1 with fail
    rw [← hW0]
    clear hW0
    obtain ⟨e0, e1⟩ := (HC.out.blk 0 rfl).pair
    go_wp2_with (go_at_call 14; refine (HAL.out _ HC.out.below).mono ?_; rintro e w9 ⟨rfl, hb⟩; have H9 := aA (HC.out.next hb); clear hb)
    go_ret
    exact ⟨rfl, H9.out.below⟩
  have m : CV x := ⟨by omega, by omega, fx⟩
  have HTG := aA (fun W (hb : RowKit.Below w.heap.size w W) => Target_any addr x m (fun o ho => by have := legC_n x o ho; omega) p _ W (h.below hb) (hT.below hb))
  have HTR := aA (fun W (hb : RowKit.Below w.heap.size w W) => Target14_any addr x m (fun o ho => by have := legC_n x o ho; omega) p _ W (h.below hb))
  have HKP := aA (fun W (hb : RowKit.Below w.heap.size w W) => Kind_any x m p _ W (h.below hb) (hT.below hb))
  have HKR := aA (fun W (hb : RowKit.Below w.heap.size w W) => Kind14_any x m p _ W (h.below hb))
  have HSP := aA (fun W (hb : RowKit.Below w.heap.size w W) => Som_any x m p _ W (h.below hb) (hT.below hb))
  have HSR := aA (fun W (hb : RowKit.Below w.heap.size w W) => Som14_any x m p _ W (h.below hb))
  rw [flow_kind x] at HKP
  rw [flow_som x] at HSP
  rw [(flow_tgt addr x).1, (flow_tgt addr x).2] at HTG
  generalize TgtR addr x = R at *
  generalize KindR x = K at *
  generalize SomR x = S at *
  clear h hT fx m
  go_enter Tryz.func3, Tryz.ntmps3
  go_upto_region 1 with fail
  rw [← hW0]
  clear hW0
  obtain ⟨e0, e1⟩ := (HC.out.blk 0 rfl).pair
  go_upto_region 5 with (first
    | (go_at_call 15; (with_reducible refine (HTG.out _ HC.out.below).mono ?_); rintro e w1 ⟨rfl, hb⟩; have H1 := aA (HC.out.next hb); clear hb e0 e1; obtain ⟨e0, e1⟩ := (H1.out.blk 0 rfl).pair)
    | (go_at_call 16; (with_reducible refine (HTR.out _ H1.out.below).mono ?_); rintro e w2 ⟨rfl, hb⟩; have H2 := aA (H1.out.next hb); clear hb e0 e1; obtain ⟨e0, e1⟩ := (H2.out.blk 0 rfl).pair))
  have HF := aA H2.out.drew
  clear HC H1 HTG HTR
  go_region_held3 (fun w' => w'.cell? ⟨w.heap.size, 0, none⟩ = some (.string x.op) ∧ w'.cell? ⟨w.heap.size, 1, none⟩ = some (.slice xa x.args.length xc)) (go_keep)
    (first | (go_at_call 14; (with_reducible refine (HAL.out _ HF.out.below).mono ?_); rintro e w3 ⟨rfl, hb⟩; have HN := aA (HF.out.next hb); clear HF hb e0 e1; have HF := HN; clear HN; obtain ⟨e0, e1⟩ := (HF.out.blk 0 rfl).pair)
           | (go_at_call 17; (with_reducible refine (HKP.out _ HF.out.below).mono ?_); rintro e w3 ⟨rfl, hb⟩; have HN := aA (HF.out.next hb); clear HF hb e0 e1; have HF := HN; clear HN; obtain ⟨e0, e1⟩ := (HF.out.blk 0 rfl).pair)
           | (go_at_call 18; (with_reducible refine (HKR.out _ HF.out.below).mono ?_); rintro e w3 ⟨rfl, hb⟩; have HN := aA (HF.out.next hb); clear HF hb e0 e1; have HF := HN; clear HN; obtain ⟨e0, e1⟩ := (HF.out.blk 0 rfl).pair)
           | (go_at_call 19; (with_reducible refine (HSP.out _ HF.out.below).mono ?_); rintro e w3 ⟨rfl, hb⟩; have HN := aA (HF.out.next hb); clear HF hb e0 e1; have HF := HN; clear HN; obtain ⟨e0, e1⟩ := (HF.out.blk 0 rfl).pair)
           | (go_at_call 20; (with_reducible refine (HSR.out _ HF.out.below).mono ?_); rintro e w3 ⟨rfl, hb⟩; have HN := aA (HF.out.next hb); clear HF hb e0 e1; have HF := HN; clear HN; obtain ⟨e0, e1⟩ := (HF.out.blk 0 rfl).pair))
  all_goals
    go_wp2
    go_ret
    exact ⟨rfl, HF.out.below⟩
end Go.Proofs.YtmpmciccgempeaaGreatDoor
