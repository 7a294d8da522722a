/-
  THE STATEMENT CanonNumbers: its row and its card.
-/
import Derived.Test.YtkkjoghfdmmpaaaDoorNumb2
import Derived.Carry
namespace Go.Proofs.YtkkjoghfdmmpaaaDoor.canonNumbers
open Go.ChangeShapes Go.WideShapes Go.ChangeAt Go.RowKit

theorem laidOut : laidOutB Tryd.prog = true := by kernel_rfl
theorem rec_ins : Tryd.prog.readableRec 39 = true := by kernel_rfl
theorem row_ins : 39 < Tryd.prog.types.size := of_decide_eq_true (by kernel_rfl)
theorem listed : ("strings.asciiSpace", Lib.tabData .u8 Lib.asciiSpaceTab) ∈ Rows.canonNumbersRow.laid :=
  List.mem_of_getElem? (i := 4) (by kernel_rfl)
theorem met {W : World} (hL : laidMetH Tryd.prog Rows.canonNumbersRow.laid W) : laidMet Tryd.prog Rows.canonNumbersRow.laid W := hL

set_option maxRecDepth 100000 in
theorem contract (H : Type) (enc : TypeId × Value → H) (W : World) (base : Nat) (args : Array Value) (ds gs : List (DataW H)) (before : List MemPlace)
    (hval : ∀ (j : Nat) t v, Tryd.f9.params[j]? = some t → args[j]? = some v → Value.okWide Tryd.prog W .any base t v)
    (hW : DataW.Whole enc Tryd.prog Tryd.f9.params.toList Rows.canonNumbersSpec.vars false W args.toList ds gs before) (hL : laidMetH Tryd.prog Rows.canonNumbersRow.laid W) :
    Calls Tryd.prog 9 args W fun e W' => ∃ v, e = .returned v ∧ Rows.canonNumbersSpec.post enc Tryd.prog Tryd.f9 false true false false W args v W' := by
  have hT : Spc W := spc_of_reads (Lib.laidMet.reads (met hL) listed)
  have hW' := hW
  obtain ⟨p, q, hA0, hV, rfl, hfz, hnd⟩ := hW
  have hA : DataW.TrodAll enc Tryd.prog W 0 (fun _ => true) true Tryd.f9.params.toList args.toList ds p := hA0
  rw [Tryd.params9] at hA hval
  obtain ⟨v0, d0, rfl, rfl, h0⟩ := trodAll_one hA
  obtain ⟨rfl, rfl⟩ := trodVars_none hV
  obtain ⟨x, v1, rfl, hs, hf, hz⟩ := open_ins (hval 0 39 v0 rfl rfl) h0
  clear hA0
  simp only [List.append_nil] at hW'
  have hlt : ∀ x ∈ p, x.block < W.heap.size := fun x hx => by simpa using hW'.lt x hx
  refine (CanonNumbers_any _ x v1 W hs hT hf hz).mono fun e W' ⟨he, hg⟩ => ?_
  subst he
  exact ⟨_, rfl, _, _, _, [], p, [], hW', trodAll_mk1 (shut_bool Tryd.underlying4 _), trodAll_mk1 (Below.trod laidOut rec_ins row_ins h0 hg hlt), rfl, hg.frame _, fun h => by cases h⟩

/-- A WORLD FOR THE WITNESS: the heap that the door's own run leaves. -/
noncomputable def w0 (os : Os) : World := World.doorLaid Tryd.prog 4000 os
theorem laid_met (os : Os) : laidMet Tryd.prog Rows.canonNumbersRow.laid ((w0 os).forCall (fun _ _ => 0) ⟨#[], #[.agg #[.string ⟨#[]⟩, .slice none 0 0]], []⟩).memory :=
  laidMet_of_run' 10 (by kernel_rfl) (by kernel_rfl)
theorem reads (os : Os) {H : Type} (enc : TypeId × Value → H) : ∃ places, DataW.whole enc Tryd.prog ((w0 os).forCall (fun _ _ => 0) ⟨#[], #[.agg #[.string ⟨#[]⟩, .slice none 0 0]], []⟩).memory Tryd.f9.params.toList Rows.canonNumbersSpec.vars false #[Value.agg #[.string ⟨#[]⟩, .slice none 0 0]].toList 8 = some ([.agg [.lit (.string []), .nil]], [], places) :=
  ⟨[], by kernel_rfl⟩

set_option maxRecDepth 100000 in
theorem lifted (os : Os) (started : os.Started) (H : Type) (enc : TypeId × Value → H) (F : Stop.Interp) :
    ReturnsInHanded {} Tryd.checked os 9 .any ((OpenSpec.ofChange Rows.canonNumbersSpec).preRow enc Tryd.prog Tryd.f9 Rows.canonNumbersRow.domain false Rows.canonNumbersRow.laid) (((OpenSpec.ofChange Rows.canonNumbersSpec).at F).post enc Tryd.prog Tryd.f9 false true false false) := by
  obtain ⟨places, hx⟩ := reads os enc
  refine returnsInHanded_of_row (C := Tryd.checked) (s := OpenSpec.ofChange Rows.canonNumbersSpec) own_knob started (by kernel_rfl) Tryd.func9
    (witness_row_atRef (enc := enc) (C := Tryd.checked) false (w0 os) #[.agg #[.string ⟨#[]⟩, .slice none 0 0]] rfl (by kernel_rfl) (by kernel_rfl) (by kernel_rfl)
      (OpenSpec.preRow_of_cond 8 hx (by kernel_rfl) (fun k hk => by cases hk) (by kernel_rfl) (laid_met os))) ?_
  intro W base args ds gs before hval hW _ _ _ hL _ _
  exact contract H enc W base args ds gs before hval hW hL

theorem said : Rows.CanonNumbersSaid :=
  OpenClaim.holds_of_cond 9 Tryd.f9 rfl rfl rfl rfl rfl rfl rfl ⟨rfl, rfl, rfl, rfl, rfl⟩ rfl rfl rfl rfl rfl (by kernel_rfl) Tryd.func9 (by kernel_rfl)
    (of_decide_eq_true (by kernel_rfl)) (by unfold Func.isWrapper; first | (rw [if_pos (by decide +kernel)]; kernel_rfl) | (rw [if_neg (by decide +kernel)]; exact ⟨rfl, rfl⟩))
    (fun os started H enc _ F => by rw [OpenClaim.pre_eq_preRow]; exact lifted os started H enc F)

/-- No parameter wants a stand-in; the program's own looks are off: what the card asks. -/
theorem plain (f : FuncId) (fn : Func) (hf : Tryd.pinned.checked.prog.funcNamed "breadboard/breadboardlaw08.CanonNumbers" = some f) (hfn : Tryd.pinned.checked.prog.funcs[f]? = some fn) :
    false = Tryd.pinned.checked.prog.looks [] ∧ ∀ (j : Nat) t, fn.params[j]? = some t → Tryd.pinned.checked.prog.wantsStandIn t = false := by
  obtain rfl : f = 9 := Option.some.inj ((show Tryd.prog.funcNamed "breadboard/breadboardlaw08.CanonNumbers" = some 9 by kernel_rfl).symm.trans hf) |>.symm
  obtain rfl : fn = Tryd.f9 := (Option.some.inj (Tryd.func9.symm.trans hfn)).symm
  refine ⟨by kernel_rfl, fun j t ht => ?_⟩
  rw [Tryd.params9] at ht
  obtain rfl : t = 39 := by simpa using Array.mem_of_getElem? ht
  exact (show Tryd.prog.wantsStandIn 39 = false by kernel_rfl)

/-- THE CARD -/
theorem card : Rows.CanonNumbersCardSaid :=
  Claim7.holds_tied_plain_at .later [] _ _ _ _ said (fun _ h => by cases h) (by kernel_rfl) (fun _ h => by cases h) canonNumbers_row_tie rfl ⟨rfl, rfl⟩ (by kernel_rfl) rfl plain (by kernel_rfl)
end Go.Proofs.YtkkjoghfdmmpaaaDoor.canonNumbers

