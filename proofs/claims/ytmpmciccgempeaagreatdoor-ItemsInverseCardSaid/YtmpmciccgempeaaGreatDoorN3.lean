/-
  The plain law of ItemsInverse: the items of encodings, one after the other, are the canonical forms. Conditions: none.
-/
import Derived.Test.YtmpmciccgempeaaGreatDoorN1
import Derived.Test.YtmpmciccgempeaaGreatDoorBI1
import Derived.Test.YtmpmciccgempeaaGreatDoorBH2
import Derived.Test.YtmpmciccgempeaaGreatDoorBJ1
import Derived.Test.YtmpmciccgempeaaGreatDoorBR1
import Derived.Test.YtmpmciccgempeaaGreatDoorBC4
import Derived.Test.YtmpmciccgempeaaGreatDoorBC3
import Derived.Test.YtmpmciccgempeaaGreatDoorBC2
import Derived.Test.YtmpmciccgempeaaGreatDoorBC1
import Derived.Test.YtmpmciccgempeaaGreatDoorBU1
import Derived.Test.YtmpmciccgempeaaGreatDoorBA17
import Derived.Test.YtmpmciccgempeaaGreatDoorBH1
import Derived.Test.YtmpmciccgempeaaGreatDoorBA14
import Derived.Test.YtmpmciccgempeaaGreatDoorBE3
import Derived.Test.YtmpmciccgempeaaGreatDoorBA12
import Derived.Test.YtmpmciccgempeaaGreatDoorBA6
import Derived.Test.YtmpmciccgempeaaGreatDoorBA5
import Derived.Test.YtmpmciccgempeaaGreatDoorBA1
import Derived.Test.YtmpmciccgempeaaGreatDoorChecked
import Derived.Test.YtmpmciccgempeaaGreatDoorBA4
import Derived.Test.YtmpmciccgempeaaGreatDoorShelf
import Derived.Test.YtmpmciccgempeaaGreatDoorBA2
import Derived.Test.YtmpmciccgempeaaGreatDoorBE1
import Derived.Test.YtmpmciccgempeaaGreatDoorBA3
import Derived.Test.YtmpmciccgempeaaGreatDoorBA9
import Derived.Test.YtmpmciccgempeaaGreatDoorBE2
import Derived.Test.YtmpmciccgempeaaGreatDoorBA7
import Derived.Test.YtmpmciccgempeaaGreatDoorBA8
import Derived.Test.YtmpmciccgempeaaGreatDoorBA11
import Derived.Test.YtmpmciccgempeaaGreatDoorBA10
import Derived.Test.YtmpmciccgempeaaGreatDoorBA13
import Derived.Test.YtmpmciccgempeaaGreatDoorBS1
import Derived.Test.YtmpmciccgempeaaGreatDoorBA15
import Derived.Test.YtmpmciccgempeaaGreatDoorBV1
namespace Go.Proofs.YtmpmciccgempeaaGreatDoor
open Go.RowKit Go.Shelf Go.Sort

theorem below_drew (w : World) : RowKit.Below w.heap.size w w.drew := ⟨rfl, rfl, rfl, Nat.le_refl _, fun _ _ => rfl⟩
/-- an instruction's item -/
def invI (x : Ins) : It := ⟨1, nZ x, x.op.data.toList, (aE x).args, false⟩
theorem stop_all : ∀ {l : List Ins} {k : Nat}, lF l k = none → ∀ x ∈ l, ∃ b, jM x = (some b, 0)
  | [], _, _, _, h => by cases h
  | x :: r, k, hs, y, hy => by
    cases hR : jM x with
    | mk o c =>
      cases o with
      | none => rw [LD hR] at hs; cases hs
      | some b =>
        rw [NN hR] at hs
        rcases List.mem_cons.1 hy with rfl | hy
        · exact ⟨b, by rw [hR, NM hR]⟩
        · exact stop_all hs y hy
theorem stop_code : ∀ {l : List Ins} {k j : Nat} {c : Int}, lF l k = some (j, c) → ¬ c = 0
  | [], _, _, _, h => by cases h
  | x :: r, k, j, c, hs => by
    cases hR : jM x with
    | mk o d =>
      cases o with
      | none => rw [LD hR] at hs; injection hs with hs; injection hs with _ hs; rw [← hs]; exact NY hR
      | some b => rw [NN hR] at hs; exact stop_code hs
theorem items_enc : ∀ {l : List Ins}, (∀ x ∈ l, ∃ b, jM x = (some b, 0)) → aX (l.map nZ).flatten = l.map invI
  | [], _ => gB rfl
  | x :: r, h => by
    obtain ⟨b, hb⟩ := h x List.mem_cons_self
    have hbb : nZ x = b := by unfold nZ; rw [hb]; rfl
    have h0 := (enc_first hb).1
    have hi := enc_more (more := (r.map nZ).flatten) hb
    rw [List.map_cons, List.flatten_cons, hbb, dN (by rw [List.length_append]; omega), hi]
    dsimp only
    rw [List.drop_left, items_enc (fun y hy => h y (List.mem_cons_of_mem _ hy)), List.map_cons]
    congr 1
    unfold Itm.it invI
    dsimp only
    rw [List.take_left, hbb]
theorem code_inv (l : List Ins) : kD (l.map invI) = l.map aE := by
  unfold kD
  rw [List.filter_eq_self.2 (fun x hx => by obtain ⟨y, _, rfl⟩ := List.mem_map.1 hx; exact decide_eq_true rfl), List.map_map]
  refine List.map_congr_left fun x _ => ?_
  rfl
theorem cnt_inv (l : List Ins) : tD 1 (l.map invI) = l.length := by
  unfold tD
  rw [List.filter_eq_self.2 (fun x hx => by obtain ⟨y, _, rfl⟩ := List.mem_map.1 hx; exact decide_eq_true rfl), List.length_map]
theorem ways_inv {l : List Ins} (h : aX (l.map nZ).flatten = l.map invI) : rD (l.map nZ).flatten = 1 :=
  VH fun x hx => by rw [h] at hx; obtain ⟨y, _, rfl⟩ := List.mem_map.1 hx; rfl
end Go.Proofs.YtmpmciccgempeaaGreatDoor
