/-
  THE STATEMENT HexreadDiffs: its row and its card.
-/
import Derived.Test.YtcfjcoockklkeaaDoorV36
import Derived.Test.YtcfjcoockklkeaaDoorKM
import Derived.Carry
import Derived.Lay

namespace Go.Proofs.YtcfjcoockklkeaaDoor.hexreadDiffs
open Go.ChangeShapes Go.WideShapes Go.ChangeAt Go.RowKit

theorem laidOut : laidOutB Tryd.prog = true := by kernel_rfl
theorem rec0 : Tryd.prog.readableRec 22 = true := by kernel_rfl
theorem row0 : 22 < Tryd.prog.types.size := of_decide_eq_true (by kernel_rfl)
theorem listed : ("math/bits.deBruijn64tab", debData) ∈ Rows.hexreadDiffsRow.laid :=
  List.mem_of_getElem? (i := 0) (by kernel_rfl)
theorem met {W : World} (hL : laidMetH Tryd.prog Rows.hexreadDiffsRow.laid W) : laidMet Tryd.prog Rows.hexreadDiffsRow.laid W := hL

set_option maxRecDepth 100000 in
theorem contract (H : Type) (enc : TypeId × Value → H) (W : World) (base : Nat) (args : Array Value) (ds gs : List (DataW H)) (before : List MemPlace)
    (hval : ∀ (j : Nat) t v, Tryd.f11.params[j]? = some t → args[j]? = some v → Value.okWide Tryd.prog W .any base t v)
    (hW : DataW.Whole enc Tryd.prog Tryd.f11.params.toList Rows.hexreadDiffsSpec.vars false W args.toList ds gs before) (hL : laidMetH Tryd.prog Rows.hexreadDiffsRow.laid W) :
    Calls Tryd.prog 11 args W fun e W' => ∃ v, e = .returned v ∧ Rows.hexreadDiffsSpec.post enc Tryd.prog Tryd.f11 false true false false W args v W' := by
  have hT : Deb W := deb_of_reads (Lib.laidMet.reads (met hL) listed)
  have hW' := hW
  obtain ⟨p, q, hA0, hV, rfl, hfz, hnd⟩ := hW
  have hA : DataW.TrodAll enc Tryd.prog W 0 (fun _ => true) true Tryd.f11.params.toList args.toList ds p := hA0
  rw [Tryd.params11] at hA hval
  obtain ⟨v0, v1, d0, d1, p0, p1, rfl, rfl, rfl, h0, h1⟩ := trodAll_two hA
  obtain ⟨rfl, rfl⟩ := trodVars_none hV
  have HP := Lib.hid hW'
  clear hA0
  simp only [List.append_nil] at hW'
  have g0 := h0
  have g1 := h1
  obtain ⟨x0, hs0, hf0⟩ := open_runs_arg (hval 0 22 v0 rfl rfl) h0
  obtain ⟨x1, hs1, hf1⟩ := open_runs_arg (hval 1 22 v1 rfl rfl) h1
  have hlt : ∀ x ∈ p0 ++ p1, x.block < W.heap.size := fun x hx => by have := hW'.lt x hx; simpa using this
  refine (Diffs_any _ _ _ _ x0 x1 W hs0 hs1 hT hf0 hf1).mono fun e W' ⟨he, hg⟩ => ?_
  subst he
  exact ⟨_, rfl, _, _, _, [], p0 ++ p1, [], hW', trodAll_mk1 (shut_bool Tryd.underlying4 _), trodAll_mk2 (Below.trod laidOut rec0 row0 g0 hg (fun x hx => hlt x (List.mem_append_left _ hx))) (Below.trod laidOut rec0 row0 g1 hg (fun x hx => hlt x (List.mem_append_right _ hx))), rfl, hg.frame _, fun h => by cases h⟩

/-- A WORLD FOR THE WITNESS: the listed variables laid. -/
noncomputable def w0 (os : Os) : World := World.laidAll Tryd.prog os Rows.hexreadDiffsRow.laid
theorem laid_met (os : Os) : laidMet Tryd.prog Rows.hexreadDiffsRow.laid ((w0 os).forCall (fun _ _ => 0) ⟨#[], #[.slice none 0 0, .slice none 0 0], []⟩).memory :=
  laidMet_laidAll _ (by kernel_rfl) (by kernel_rfl)
theorem reads (os : Os) {H : Type} (enc : TypeId × Value → H) : ∃ places, DataW.whole enc Tryd.prog ((w0 os).forCall (fun _ _ => 0) ⟨#[], #[.slice none 0 0, .slice none 0 0], []⟩).memory Tryd.f11.params.toList Rows.hexreadDiffsSpec.vars false (#[(.slice none 0 0 : Value), (.slice none 0 0 : Value)] : Array Value).toList 8 = some ([.nil, .nil], [], places) :=
  ⟨[], by kernel_rfl⟩

set_option maxRecDepth 100000 in
theorem lifted (os : Os) (started : os.Started) (H : Type) (enc : TypeId × Value → H) (F : Stop.Interp) :
    ReturnsInHanded {} Tryd.checked os 11 .any ((OpenSpec.ofChange Rows.hexreadDiffsSpec).preRow enc Tryd.prog Tryd.f11 Rows.hexreadDiffsRow.domain false Rows.hexreadDiffsRow.laid) (((OpenSpec.ofChange Rows.hexreadDiffsSpec).at F).post enc Tryd.prog Tryd.f11 false true false false) := by
  obtain ⟨places, hx⟩ := reads os enc
  refine returnsInHanded_of_row (C := Tryd.checked) (s := OpenSpec.ofChange Rows.hexreadDiffsSpec) own_knob started (by kernel_rfl) Tryd.func11
    (witness_row_atRef (enc := enc) (C := Tryd.checked) false (w0 os) #[.slice none 0 0, .slice none 0 0] (World.laidAll_os _ _ _) (by kernel_rfl) (by kernel_rfl) (by kernel_rfl)
      (OpenSpec.preRow_of_cond 8 hx (by kernel_rfl) (fun k hk => by cases hk) (by kernel_rfl) (laid_met os))) ?_
  intro W base args ds gs before hval hW _ _ _ hL _ _
  exact contract H enc W base args ds gs before hval hW hL

theorem said : Rows.HexreadDiffsSaid :=
  OpenClaim.holds_of_cond 11 Tryd.f11 rfl rfl rfl rfl rfl rfl rfl ⟨rfl, rfl, rfl, rfl, rfl⟩ rfl rfl rfl rfl rfl (by kernel_rfl) Tryd.func11 (by kernel_rfl)
    (of_decide_eq_true (by kernel_rfl)) (by unfold Func.isWrapper; first | (rw [if_pos (by decide +kernel)]; kernel_rfl) | (rw [if_neg (by decide +kernel)]; exact ⟨rfl, rfl⟩))
    (fun os started H enc _ F => by rw [OpenClaim.pre_eq_preRow]; exact lifted os started H enc F)

/-- No parameter wants a stand-in; the program's own looks are off: what the card asks. -/
theorem plain (f : FuncId) (fn : Func) (hf : Tryd.pinned.checked.prog.funcNamed "breadboard/breadboardlaw05.HexreadDiffs" = some f) (hfn : Tryd.pinned.checked.prog.funcs[f]? = some fn) :
    false = Tryd.pinned.checked.prog.looks [] ∧ ∀ (j : Nat) t, fn.params[j]? = some t → Tryd.pinned.checked.prog.wantsStandIn t = false := by
  obtain rfl : f = 11 := Option.some.inj ((show Tryd.prog.funcNamed "breadboard/breadboardlaw05.HexreadDiffs" = some 11 by kernel_rfl).symm.trans hf) |>.symm
  obtain rfl : fn = Tryd.f11 := (Option.some.inj (Tryd.func11.symm.trans hfn)).symm
  refine ⟨by kernel_rfl, fun j t ht => ?_⟩
  rw [Tryd.params11] at ht
  obtain rfl : t = 22 := by simpa using Array.mem_of_getElem? ht
  exact (show Tryd.prog.wantsStandIn 22 = false by kernel_rfl)

/-- THE CARD -/
theorem card : Rows.HexreadDiffsCardSaid :=
  Claim7.holds_tied_plain_at .later [] _ _ _ _ said (fun _ h => by cases h) (by kernel_rfl) (fun _ h => by cases h) hexreadDiffs_row_tie rfl ⟨rfl, rfl⟩ (by kernel_rfl) rfl plain (by kernel_rfl)
end Go.Proofs.YtcfjcoockklkeaaDoor.hexreadDiffs
