/-
  THE STATEMENT HexwriteJoinsUpto: its row and its card.
-/
import Derived.Test.YtcfjcoockklkeaaDoorKS
import Derived.Test.YtcfjcoockklkeaaDoorKR
import Derived.Carry

namespace Go.Proofs.YtcfjcoockklkeaaDoor.hexwriteJoinsUpto
open Go.ChangeShapes Go.WideShapes Go.ChangeAt Go.RowKit

theorem laidOut : laidOutB Tryd.prog = true := by kernel_rfl
theorem rec0 : Tryd.prog.readableRec 33 = true := by kernel_rfl
theorem row0 : 33 < Tryd.prog.types.size := of_decide_eq_true (by kernel_rfl)
theorem listed : ("math/bits.deBruijn64tab", debData) ∈ Rows.hexwriteJoinsUptoRow.laid :=
  List.mem_of_getElem? (i := 0) (by kernel_rfl)
theorem met {W : World} (hL : laidMetH Tryd.prog Rows.hexwriteJoinsUptoRow.laid W) : laidMet Tryd.prog Rows.hexwriteJoinsUptoRow.laid W := hL

set_option maxRecDepth 100000 in
theorem contract (H : Type) (enc : TypeId × Value → H) (W : World) (base : Nat) (args : Array Value) (ds gs : List (DataW H)) (before : List MemPlace)
    (hval : ∀ (j : Nat) t v, Tryd.f5.params[j]? = some t → args[j]? = some v → Value.okWide Tryd.prog W .any base t v)
    (hW : DataW.Whole enc Tryd.prog Tryd.f5.params.toList Rows.hexwriteJoinsSpec.vars false W args.toList ds gs before) (hL : laidMetH Tryd.prog Rows.hexwriteJoinsUptoRow.laid W) (hK : Rows.uptoSmall H (ds ++ gs) = true) :
    Calls Tryd.prog 5 args W fun e W' => ∃ v, e = .returned v ∧ Rows.hexwriteJoinsSpec.post enc Tryd.prog Tryd.f5 false true false false W args v W' := by
  have hT : Deb W := deb_of_reads (Lib.laidMet.reads (met hL) listed)
  have hW' := hW
  obtain ⟨p, q, hA0, hV, rfl, hfz, hnd⟩ := hW
  have hA : DataW.TrodAll enc Tryd.prog W 0 (fun _ => true) true Tryd.f5.params.toList args.toList ds p := hA0
  rw [Tryd.params5] at hA hval
  obtain ⟨v0, d0, rfl, rfl, h0⟩ := trodAll_one hA
  obtain ⟨rfl, rfl⟩ := trodVars_none hV
  have hB : Rows.uptoBulk d0 ≤ 1048576 := by
    have h := of_decide_eq_true hK
    simp only [List.append_nil, Rows.uptoBulkAll] at h
    omega
  have HP := Lib.hid hW'
  clear hA0
  simp only [List.append_nil] at hW'
  have g0 := h0
  obtain ⟨x0, hs0, hf0⟩ := open_strs_bulk (hval 0 33 v0 rfl rfl) h0
  have hlt : ∀ x ∈ p, x.block < W.heap.size := fun x hx => by have := hW'.lt x hx; simpa using this
  refine (Joins_any _ _ x0 W hs0 hT (Nat.le_trans (joinS_count x0) (Nat.le_trans hf0 (Nat.le_trans hB (by omega)))) (Nat.le_trans hf0 (Nat.le_trans hB (by omega)))).mono fun e W' ⟨he, hg⟩ => ?_
  subst he
  exact ⟨_, rfl, _, _, _, [], p, [], hW', trodAll_mk1 (shut_bool Tryd.underlying4 _), trodAll_mk1 (Below.trod laidOut rec0 row0 g0 hg hlt), rfl, hg.frame _, fun h => by cases h⟩

/-- A WORLD FOR THE WITNESS: the heap that the door's own run leaves. -/
noncomputable def w0 (os : Os) : World := World.doorLaid Tryd.prog 4000 os
theorem laid_met (os : Os) : laidMet Tryd.prog Rows.hexwriteJoinsUptoRow.laid ((w0 os).forCall (fun _ _ => 0) ⟨#[], #[.slice none 0 0], []⟩).memory :=
  laidMet_of_run' 10 (by kernel_rfl) (by kernel_rfl)
theorem reads (os : Os) {H : Type} (enc : TypeId × Value → H) : ∃ places, DataW.whole enc Tryd.prog ((w0 os).forCall (fun _ _ => 0) ⟨#[], #[.slice none 0 0], []⟩).memory Tryd.f5.params.toList Rows.hexwriteJoinsSpec.vars false (#[(.slice none 0 0 : Value)] : Array Value).toList 8 = some ([.nil], [], places) :=
  ⟨[], by kernel_rfl⟩

set_option maxRecDepth 100000 in
theorem lifted (os : Os) (started : os.Started) (H : Type) (enc : TypeId × Value → H) (F : Stop.Interp) :
    ReturnsInHanded {} Tryd.checked os 5 .any ((Rows.OpenSpec.upto Rows.hexwriteJoinsSpec).preRow enc Tryd.prog Tryd.f5 Rows.hexwriteJoinsUptoRow.domain false Rows.hexwriteJoinsUptoRow.laid) (((Rows.OpenSpec.upto Rows.hexwriteJoinsSpec).at F).post enc Tryd.prog Tryd.f5 false true false false) := by
  obtain ⟨places, hx⟩ := reads os enc
  refine returnsInHanded_of_row (C := Tryd.checked) (s := Rows.OpenSpec.upto Rows.hexwriteJoinsSpec) own_knob started (by kernel_rfl) Tryd.func5
    (witness_row_atRef (enc := enc) (C := Tryd.checked) false (w0 os) #[.slice none 0 0] rfl (by kernel_rfl) (by kernel_rfl) (by kernel_rfl)
      (OpenSpec.preRow_of_cond 8 hx (by kernel_rfl) (fun k hk => by cases hk; kernel_rfl) (by kernel_rfl) (laid_met os))) ?_
  intro W base args ds gs before hval hW _ hC _ hL _ _
  exact contract H enc W base args ds gs before hval hW hL (hC _ rfl)

theorem said : Rows.HexwriteJoinsUptoSaid :=
  OpenClaim.holds_of_cond 5 Tryd.f5 rfl rfl rfl rfl rfl rfl rfl ⟨rfl, rfl, rfl, rfl, rfl⟩ rfl rfl rfl rfl rfl (by kernel_rfl) Tryd.func5 (by kernel_rfl)
    (of_decide_eq_true (by kernel_rfl)) (by unfold Func.isWrapper; first | (rw [if_pos (by decide +kernel)]; kernel_rfl) | (rw [if_neg (by decide +kernel)]; exact ⟨rfl, rfl⟩))
    (fun os started H enc _ F => by rw [OpenClaim.pre_eq_preRow]; exact lifted os started H enc F)

/-- No parameter wants a stand-in; the program's own looks are off: what the card asks. -/
theorem plain (f : FuncId) (fn : Func) (hf : Tryd.pinned.checked.prog.funcNamed "breadboard/breadboardlaw04.HexwriteJoins" = some f) (hfn : Tryd.pinned.checked.prog.funcs[f]? = some fn) :
    false = Tryd.pinned.checked.prog.looks [] ∧ ∀ (j : Nat) t, fn.params[j]? = some t → Tryd.pinned.checked.prog.wantsStandIn t = false := by
  obtain rfl : f = 5 := Option.some.inj ((show Tryd.prog.funcNamed "breadboard/breadboardlaw04.HexwriteJoins" = some 5 by kernel_rfl).symm.trans hf) |>.symm
  obtain rfl : fn = Tryd.f5 := (Option.some.inj (Tryd.func5.symm.trans hfn)).symm
  refine ⟨by kernel_rfl, fun j t ht => ?_⟩
  rw [Tryd.params5] at ht
  obtain rfl : t = 33 := by simpa using Array.mem_of_getElem? ht
  exact (show Tryd.prog.wantsStandIn 33 = false by kernel_rfl)

/-- THE CARD -/
theorem card : Rows.HexwriteJoinsUptoCardSaid :=
  Claim7.holds_tied_plain_at .later [] _ _ _ _ said (fun _ h => by cases h) (by kernel_rfl) (fun _ h => by cases h) hexwriteJoinsUpto_row_tie rfl ⟨rfl, rfl⟩ (by kernel_rfl) rfl plain (by kernel_rfl)
end Go.Proofs.YtcfjcoockklkeaaDoor.hexwriteJoinsUpto
