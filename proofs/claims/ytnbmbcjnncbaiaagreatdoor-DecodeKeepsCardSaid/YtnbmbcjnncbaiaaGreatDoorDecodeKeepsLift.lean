/-
  THE STATEMENT DecodeKeeps: the row's proof, lifted. Conditions: as the row says.
-/
import Derived.Test.YtnbmbcjnncbaiaaGreatDoorD28
import Derived.Test.YtnbmbcjnncbaiaaGreatDoorKP
import Derived.Carry
import Derived.Lay

namespace Go.Proofs.YtnbmbcjnncbaiaaGreatDoor.decodeKeeps
open Go.ChangeShapes Go.WideShapes Go.ChangeAt Go.RowKit

theorem laidOut : laidOutB Tryz.prog = true := by kernel_rfl
theorem rec0 : Tryz.prog.readableRec 22 = true := by kernel_rfl
theorem row0 : 22 < Tryz.prog.types.size := of_decide_eq_true (by kernel_rfl)
theorem listed : ("strings.asciiSpace", Lib.tabData .u8 Lib.asciiSpaceTab) ∈ Rows.decodeKeepsRow.laid :=
  List.mem_of_getElem? (i := 5) (by kernel_rfl)
theorem met {W : World} (hL : laidMetH Tryz.prog Rows.decodeKeepsRow.laid W) : laidMet Tryz.prog Rows.decodeKeepsRow.laid W := hL

set_option maxRecDepth 100000 in
theorem contract (H : Type) (enc : TypeId × Value → H) (W : World) (base : Nat) (args : Array Value) (ds gs : List (DataW H)) (before : List MemPlace)
    (hval : ∀ (j : Nat) t v, Tryz.f7.params[j]? = some t → args[j]? = some v → Value.okWide Tryz.prog W .any base t v)
    (hW : DataW.Whole enc Tryz.prog Tryz.f7.params.toList Rows.decodeKeepsSpec.vars false W args.toList ds gs before) (hL : laidMetH Tryz.prog Rows.decodeKeepsRow.laid W) :
    Calls Tryz.prog 7 args W fun e W' => ∃ v, e = .returned v ∧ Rows.decodeKeepsSpec.post enc Tryz.prog Tryz.f7 false true false false W args v W' := by
  have hT : Spc W := spc_of_reads (Lib.laidMet.reads (met hL) listed)
  have hW' := hW
  obtain ⟨p, q, hA0, hV, rfl, hfz, hnd⟩ := hW
  have hA : DataW.TrodAll enc Tryz.prog W 0 (fun _ => true) true Tryz.f7.params.toList args.toList ds p := hA0
  rw [Tryz.params7] at hA hval
  obtain ⟨v0, v1, d0, d1, p0, p1, rfl, rfl, rfl, h0, h1⟩ := trodAll_two hA
  obtain ⟨rfl, rfl⟩ := trodVars_none hV
  have HP := Lib.hid hW'
  clear hA0
  simp only [List.append_nil] at hW'
  have g0 := h0
  have g1 := h1
  obtain ⟨x0, hs0, _⟩ := open_bytes_arg (hval 0 22 v0 rfl rfl) h0
  obtain ⟨x1, hs1, _⟩ := open_bytes_arg (hval 1 22 v1 rfl rfl) h1
  have hlt : ∀ x ∈ p0 ++ p1, x.block < W.heap.size := fun x hx => by have := hW'.lt x hx; simpa using this
  refine (DecodeKeeps_law _ _ _ _ x0 x1 W hs0 hs1 hT).mono fun e W' ⟨he, hg⟩ => ?_
  subst he
  exact ⟨_, rfl, _, _, _, [], p0 ++ p1, [], hW', trodAll_mk1 (shut_bool Tryz.underlying4 _), trodAll_mk2 (Below.trod laidOut rec0 row0 g0 hg (fun x hx => hlt x (List.mem_append_left _ hx))) (Below.trod laidOut rec0 row0 g1 hg (fun x hx => hlt x (List.mem_append_right _ hx))), rfl, hg.frame _, fun h => by cases h⟩

/-- A WORLD FOR THE WITNESS: the listed variables laid. -/
noncomputable def w0 (os : Os) : World := World.laidAll Tryz.prog os Rows.decodeKeepsRow.laid
theorem laid_met (os : Os) : laidMet Tryz.prog Rows.decodeKeepsRow.laid ((w0 os).forCall (fun _ _ => 0) ⟨#[], #[.slice none 0 0, .slice none 0 0], []⟩).memory :=
  laidMet_laidAll _ (by kernel_rfl) (by kernel_rfl)
theorem reads (os : Os) {H : Type} (enc : TypeId × Value → H) : ∃ places, DataW.whole enc Tryz.prog ((w0 os).forCall (fun _ _ => 0) ⟨#[], #[.slice none 0 0, .slice none 0 0], []⟩).memory Tryz.f7.params.toList Rows.decodeKeepsSpec.vars false (#[(.slice none 0 0 : Value), (.slice none 0 0 : Value)] : Array Value).toList 8 = some ([.nil, .nil], [], places) :=
  ⟨[], by kernel_rfl⟩

set_option maxRecDepth 100000 in
theorem lifted (os : Os) (started : os.Started) (H : Type) (enc : TypeId × Value → H) (F : Stop.Interp) :
    ReturnsInHanded {} Tryz.checked os 7 .any ((OpenSpec.ofChange Rows.decodeKeepsSpec).preRow enc Tryz.prog Tryz.f7 Rows.decodeKeepsRow.domain false Rows.decodeKeepsRow.laid) (((OpenSpec.ofChange Rows.decodeKeepsSpec).at F).post enc Tryz.prog Tryz.f7 false true false false) := by
  obtain ⟨places, hx⟩ := reads os enc
  refine returnsInHanded_of_row (C := Tryz.checked) (s := OpenSpec.ofChange Rows.decodeKeepsSpec) own_knob started (by kernel_rfl) Tryz.func7
    (witness_row_atRef (enc := enc) (C := Tryz.checked) false (w0 os) #[.slice none 0 0, .slice none 0 0] (World.laidAll_os _ _ _) (by kernel_rfl) (by kernel_rfl) (by kernel_rfl)
      (OpenSpec.preRow_of_cond 8 hx (by kernel_rfl) (fun k hk => by cases hk) (by kernel_rfl) (laid_met os))) ?_
  intro W base args ds gs before hval hW _ _ _ hL _ _
  exact contract H enc W base args ds gs before hval hW hL

end Go.Proofs.YtnbmbcjnncbaiaaGreatDoor.decodeKeeps
