/-
  THE STATEMENT HexreadEnds: its row and its card.
-/
import Derived.Test.YtcfjcoockklkeaaDoorV25
import Derived.Test.YtcfjcoockklkeaaDoorKM
import Derived.Carry
import Derived.Lay
import Derived.ChangeMaps5
namespace Go.Proofs.YtcfjcoockklkeaaDoor.hexreadEnds
open Go.ChangeShapes Go.WideShapes Go.ChangeAt Go.RowKit Go.ChangeMaps

theorem laidOut : laidOutB Tryd.prog = true := by kernel_rfl
theorem rec0 : Tryd.prog.readableRec 22 = true := by kernel_rfl
theorem row0 : 22 < Tryd.prog.types.size := of_decide_eq_true (by kernel_rfl)
theorem rec1 : Tryd.prog.readableRec 9 = true := by kernel_rfl
theorem row1 : 9 < Tryd.prog.types.size := of_decide_eq_true (by kernel_rfl)
theorem listed : ("math/bits.deBruijn64tab", debData) ∈ Rows.hexreadEndsRow.laid :=
  List.mem_of_getElem? (i := 0) (by kernel_rfl)
theorem met {W : World} (hL : laidMetH Tryd.prog Rows.hexreadEndsRow.laid W) : laidMet Tryd.prog Rows.hexreadEndsRow.laid W := hL

set_option maxRecDepth 100000 in
theorem contract (H : Type) (enc : TypeId × Value → H) (W : World) (base : Nat) (args : Array Value) (ds gs : List (DataW H)) (before : List MemPlace)
    (hval : ∀ (j : Nat) t v, Tryd.f9.params[j]? = some t → args[j]? = some v → Value.okWide Tryd.prog W .any base t v)
    (hW : DataW.Whole enc Tryd.prog Tryd.f9.params.toList Rows.hexreadEndsSpec.vars false W args.toList ds gs before) (hL : laidMetH Tryd.prog Rows.hexreadEndsRow.laid W) :
    Calls Tryd.prog 9 args W fun e W' => ∃ v, e = .returned v ∧ Rows.hexreadEndsSpec.post enc Tryd.prog Tryd.f9 false true false false W args v W' := by
  have hT : Deb W := deb_of_reads (Lib.laidMet.reads (met hL) listed)
  have hW' := hW
  obtain ⟨p, q, hA0, hV, rfl, hfz, hnd⟩ := hW
  have hA : DataW.TrodAll enc Tryd.prog W 0 (fun _ => true) true Tryd.f9.params.toList args.toList ds p := hA0
  rw [Tryd.params9] at hA hval
  obtain ⟨v0, v1, d0, d1, p0, p1, rfl, rfl, rfl, h0, h1⟩ := trodAll_two hA
  obtain ⟨rfl, rfl⟩ := trodVars_none hV
  have HP := Lib.hid hW'
  clear hA0
  simp only [List.append_nil] at hW'
  have g0 := h0
  have g1 := h1
  obtain ⟨x0, hs0, hf0⟩ := open_runs_arg (hval 0 22 v0 rfl rfl) h0
  obtain ⟨x1, rfl, _, _, _⟩ := open_string Tryd.underlying9 (hval 1 9 v1 rfl rfl) h1
  have hlt : ∀ x ∈ p0 ++ p1, x.block < W.heap.size := fun x hx => by have := hW'.lt x hx; simpa using this
  refine (Ends_any _ _ x0 x1 W hs0 hT hf0).mono fun e W' ⟨he, hg⟩ => ?_
  subst he
  exact ⟨_, rfl, _, _, _, [], p0 ++ p1, [], hW', trodAll_mk1 (shut_bool Tryd.underlying4 _), trodAll_mk2 (Below.trod laidOut rec0 row0 g0 hg (fun x hx => hlt x (List.mem_append_left _ hx))) (Below.trod laidOut rec1 row1 g1 hg (fun x hx => hlt x (List.mem_append_right _ hx))), rfl, hg.frame _, fun h => by cases h⟩

/-- A WORLD FOR THE WITNESS: the listed variables laid. -/
noncomputable def w0 (os : Os) : World := World.laidAll Tryd.prog os Rows.hexreadEndsRow.laid
theorem laid_met (os : Os) : laidMet Tryd.prog Rows.hexreadEndsRow.laid ((w0 os).forCall (fun _ _ => 0) ⟨#[], #[.slice none 0 0, .string ⟨#[]⟩], []⟩).memory :=
  laidMet_laidAll _ (by kernel_rfl) (by kernel_rfl)
theorem reads (os : Os) {H : Type} (enc : TypeId × Value → H) : ∃ places, DataW.whole enc Tryd.prog ((w0 os).forCall (fun _ _ => 0) ⟨#[], #[.slice none 0 0, .string ⟨#[]⟩], []⟩).memory Tryd.f9.params.toList Rows.hexreadEndsSpec.vars false (#[(.slice none 0 0 : Value), (.string ⟨#[]⟩ : Value)] : Array Value).toList 8 = some ([.nil, .lit (.string [])], [], places) :=
  ⟨[], by kernel_rfl⟩

set_option maxRecDepth 100000 in
theorem lifted (os : Os) (started : os.Started) (H : Type) (enc : TypeId × Value → H) (F : Stop.Interp) :
    ReturnsInHanded {} Tryd.checked os 9 .any ((OpenSpec.ofChange Rows.hexreadEndsSpec).preRow enc Tryd.prog Tryd.f9 Rows.hexreadEndsRow.domain false Rows.hexreadEndsRow.laid) (((OpenSpec.ofChange Rows.hexreadEndsSpec).at F).post enc Tryd.prog Tryd.f9 false true false false) := by
  obtain ⟨places, hx⟩ := reads os enc
  refine returnsInHanded_of_row (C := Tryd.checked) (s := OpenSpec.ofChange Rows.hexreadEndsSpec) own_knob started (by kernel_rfl) Tryd.func9
    (witness_row_atRef (enc := enc) (C := Tryd.checked) false (w0 os) #[.slice none 0 0, .string ⟨#[]⟩] (World.laidAll_os _ _ _) (by kernel_rfl) (by kernel_rfl) (by kernel_rfl)
      (OpenSpec.preRow_of_cond 8 hx (by kernel_rfl) (fun k hk => by cases hk) (by kernel_rfl) (laid_met os))) ?_
  intro W base args ds gs before hval hW _ _ _ hL _ _
  exact contract H enc W base args ds gs before hval hW hL

theorem said : Rows.HexreadEndsSaid :=
  OpenClaim.holds_of_cond 9 Tryd.f9 rfl rfl rfl rfl rfl rfl rfl ⟨rfl, rfl, rfl, rfl, rfl⟩ rfl rfl rfl rfl rfl (by kernel_rfl) Tryd.func9 (by kernel_rfl)
    (of_decide_eq_true (by kernel_rfl)) (by unfold Func.isWrapper; first | (rw [if_pos (by decide +kernel)]; kernel_rfl) | (rw [if_neg (by decide +kernel)]; exact ⟨rfl, rfl⟩))
    (fun os started H enc _ F => by rw [OpenClaim.pre_eq_preRow]; exact lifted os started H enc F)

/-- No parameter wants a stand-in; the program's own looks are off: what the card asks. -/
theorem plain (f : FuncId) (fn : Func) (hf : Tryd.pinned.checked.prog.funcNamed "breadboard/breadboardlaw05.HexreadEnds" = some f) (hfn : Tryd.pinned.checked.prog.funcs[f]? = some fn) :
    false = Tryd.pinned.checked.prog.looks [] ∧ ∀ (j : Nat) t, fn.params[j]? = some t → Tryd.pinned.checked.prog.wantsStandIn t = false := by
  obtain rfl : f = 9 := Option.some.inj ((show Tryd.prog.funcNamed "breadboard/breadboardlaw05.HexreadEnds" = some 9 by kernel_rfl).symm.trans hf) |>.symm
  obtain rfl : fn = Tryd.f9 := (Option.some.inj (Tryd.func9.symm.trans hfn)).symm
  refine ⟨by kernel_rfl, fun j t ht => ?_⟩
  rw [Tryd.params9] at ht
  have hm := Array.mem_of_getElem? ht
  simp at hm
  rcases hm with rfl | rfl
  · exact (show Tryd.prog.wantsStandIn 22 = false by kernel_rfl)
  · exact (show Tryd.prog.wantsStandIn 9 = false by kernel_rfl)

/-- THE CARD -/
theorem card : Rows.HexreadEndsCardSaid :=
  Claim7.holds_tied_plain_at .later [] _ _ _ _ said (fun _ h => by cases h) (by kernel_rfl) (fun _ h => by cases h) hexreadEnds_row_tie rfl ⟨rfl, rfl⟩ (by kernel_rfl) rfl plain (by kernel_rfl)
end Go.Proofs.YtcfjcoockklkeaaDoor.hexreadEnds
