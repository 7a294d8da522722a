/-
  decode.read and decode.First fR no bytes. Conditions: none.
-/
import Derived.Test.YtmpmciccgempeaaGreatDoorBR1
import Derived.Test.YtmpmciccgempeaaGreatDoorBC4
import Derived.Test.YtmpmciccgempeaaGreatDoorBC3
import Derived.Test.YtmpmciccgempeaaGreatDoorBC2
import Derived.Test.YtmpmciccgempeaaGreatDoorBF1
import Derived.Test.YtmpmciccgempeaaGreatDoorBC1
import Derived.Test.YtmpmciccgempeaaGreatDoorBU1
import Derived.Test.YtmpmciccgempeaaGreatDoorBA17
import Derived.Test.YtmpmciccgempeaaGreatDoorBA14
import Derived.Test.YtmpmciccgempeaaGreatDoorBA12
import Derived.Test.YtmpmciccgempeaaGreatDoorBA6
import Derived.Test.YtmpmciccgempeaaGreatDoorBA5
import Derived.Test.YtmpmciccgempeaaGreatDoorBB1
import Derived.Test.YtmpmciccgempeaaGreatDoorBA1
import Derived.Test.YtmpmciccgempeaaGreatDoorBD1
import Derived.Test.YtmpmciccgempeaaGreatDoorChecked
import Derived.Test.YtmpmciccgempeaaGreatDoorBA4
import Derived.Test.YtmpmciccgempeaaGreatDoorShelf
import Derived.Test.YtmpmciccgempeaaGreatDoorBA2
import Derived.Test.YtmpmciccgempeaaGreatDoorBA3
import Derived.Test.YtmpmciccgempeaaGreatDoorBB2
import Derived.Test.YtmpmciccgempeaaGreatDoorBA9
import Derived.Test.YtmpmciccgempeaaGreatDoorBA7
import Derived.Test.YtmpmciccgempeaaGreatDoorBA8
import Derived.Test.YtmpmciccgempeaaGreatDoorBT1
import Derived.Test.YtmpmciccgempeaaGreatDoorBB3
import Derived.Test.YtmpmciccgempeaaGreatDoorBA11
import Derived.Test.YtmpmciccgempeaaGreatDoorBA10
import Derived.Test.YtmpmciccgempeaaGreatDoorBB8
import Derived.Test.YtmpmciccgempeaaGreatDoorBB4
import Derived.Test.YtmpmciccgempeaaGreatDoorBB6
import Derived.Test.YtmpmciccgempeaaGreatDoorBB5
import Derived.Test.YtmpmciccgempeaaGreatDoorBA13
import Derived.Test.YtmpmciccgempeaaGreatDoorBB7
namespace Go.Proofs.YtmpmciccgempeaaGreatDoor
open Go.RowKit Go.Shelf Go.Sort

set_option maxHeartbeats 4000000 in
set_option maxRecDepth 100000 in
theorem UG (a : Option Addr) (c : Nat) (w : World) :
    Calls Tryz.prog 71 #[.slice a 0 c] w fun e w' => (∃ g, e = .returned (.tuple #[.agg cD, .pointer (some ⟨g, 0, none⟩)])) ∧ RowKit.Below w.heap.size w w' := by
  have hmf : ∀ (fn : Fn) (first cap : Array Value) (w : World), (Instr.makeFunc fn first cap).run Tryz.prog w = .ok (.func fn first cap) w := fun _ _ _ _ => rfl
  go_enter_defers Tryz.func71, Tryz.ntmps71
  go_upto_region 3 with fail
  have HF := aA (((((Fr.start w).new' 32 #[.slice a 0 c] (b := w.heap.size) rfl).new' 34 cD (b := w.heap.size + 1) (World.size_alloc _ _)).new' 97 #[.pointer (some ⟨w.heap.size + 1 + 1 + 1, 0, none⟩)] (b := w.heap.size + 1 + 1) (by rw [World.size_alloc, World.size_alloc])).alloc (.cells #[.slice a 0 c, .int .i64 0, .slice none 0 0, .int .i64 0, .int .u8 0, .string ⟨#[]⟩, .slice none 0 0, .string ⟨#[]⟩, .bool false, .int .i64 0, .int .i64 0] dC))
  generalize (((w.alloc (.cells #[.slice a 0 c] 32)).alloc (.cells cD 34)).alloc (.cells #[.pointer (some ⟨w.heap.size + 1 + 1 + 1, 0, none⟩)] 97)).alloc (.cells #[.slice a 0 c, .int .i64 0, .slice none 0 0, .int .i64 0, .int .u8 0, .string ⟨#[]⟩, .slice none 0 0, .string ⟨#[]⟩, .bool false, .int .i64 0, .int .i64 0] dC) = W1 at *
  obtain ⟨⟨c0, c1, c2, c3, c4⟩, f0, f1, f2, f3, f4⟩ := (HF.out.blk 1 rfl).five
  have x0 := (HF.out.blk 0 rfl).one
  obtain ⟨x0, z0⟩ := x0
  go_region
  all_goals go_wp2
  all_goals have FA := (((HF.out.swap.set5 (by omega) (fun x hx => by rcases List.mem_cons.1 hx with e | hx; rw [e]; show w.heap.size + 1 + 1 ≠ w.heap.size + 1; omega; rw [List.mem_singleton.1 hx]; show w.heap.size ≠ w.heap.size + 1; omega) (.int .i64 0) (.slice none 0 0) (.string ⟨#[]⟩) (.slice none 0 0) (.bool false)).swap).set (by omega) (fun x hx => by rcases List.mem_cons.1 hx with e | hx; rw [e]; show w.heap.size + 1 ≠ w.heap.size + 1 + 1; omega; rw [List.mem_singleton.1 hx]; show w.heap.size ≠ w.heap.size + 1 + 1; omega) 0 (.pointer (some ⟨w.heap.size + 1 + 1 + 1, 0, none⟩))).drew
  all_goals have FB := ((HF.out.set (by omega) (fun x hx => by rcases List.mem_cons.1 hx with e | hx; rw [e]; show w.heap.size + 1 ≠ w.heap.size + 1 + 1; omega; rw [List.mem_singleton.1 hx]; show w.heap.size ≠ w.heap.size + 1 + 1; omega) 0 (.pointer (some ⟨w.heap.size + 1 + 1 + 1, 0, none⟩))).swap.set5 (by omega) (fun x hx => by rcases List.mem_cons.1 hx with e | hx; rw [e]; show w.heap.size + 1 + 1 ≠ w.heap.size + 1; omega; rw [List.mem_singleton.1 hx]; show w.heap.size ≠ w.heap.size + 1; omega) (.int .i64 0) (.slice none 0 0) (.string ⟨#[]⟩) (.slice none 0 0) (.bool false)).drew
  all_goals first
    | exact ⟨_, oP rfl rfl (FA.blk 1 rfl) ((FA.blk 0 rfl).cell 0), ⟨_, rfl⟩, FA.below⟩
    | exact ⟨_, oP rfl rfl (FB.blk 0 rfl) ((FB.blk 1 rfl).cell 0), ⟨_, rfl⟩, FB.below⟩
set_option maxHeartbeats 4000000 in
set_option maxRecDepth 100000 in
theorem MO (a : Option Addr) (c : Nat) (w : World) :
    Calls Tryz.prog 22 #[.slice a 0 c] w fun e w' => e = .returned (.agg cD) ∧ RowKit.Below w.heap.size w w' := by
  have HRD := aA (fun W => UG a c W)
  have HF0 := aA ((Fr.start w).new 34 cD)
  obtain ⟨W0, hW0⟩ : ∃ W : World, W = w.alloc (.cells cD 34) := ⟨_, rfl⟩
  rw [← hW0] at HF0
  go_enter Tryz.func22, Tryz.ntmps22
  go_upto_region 1 with fail
  rw [← hW0]
  clear hW0
  go_upto_region 2 with (go_at_call 71; refine (HRD.out _).mono ?_; rintro e w1 ⟨⟨g, rfl⟩, hb⟩; have HF1 := aA (HF0.out.next hb); clear hb)
  have HF2 := aA ((HF1.out.new' 34 cD (b := w1.heap.size) rfl))
  have HZ : Hid (w.heap.size < w1.heap.size) := aA ((HF1.out.blk 0 rfl).lt)
  generalize w1.alloc (.cells cD 34) = W2 at *
  generalize w1.heap.size = tb at *
  obtain ⟨⟨c0, c1, c2, c3, c4⟩, _⟩ := (HF2.out.blk 0 rfl).five
  obtain ⟨⟨m0, m1, m2, m3, m4⟩, g0, g1, g2, g3, g4⟩ := (HF2.out.blk 1 rfl).five
  go_wp2
  have F5 := aA (HF2.out.swap.set5 (Nat.le_refl _) (fun x hx => by rw [List.mem_singleton.1 hx]; have := HZ.out; show tb ≠ w.heap.size; omega) (.int .i64 0) (.slice none 0 0) (.string ⟨#[]⟩) (.slice none 0 0) (.bool false))
  exact bodyPost_ret (eG rfl rfl (F5.out.blk 0 rfl) rfl) rfl ⟨rfl, F5.out.below⟩
end Go.Proofs.YtmpmciccgempeaaGreatDoor
