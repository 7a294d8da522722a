/-
  THE STATEMENT EncodeEntries: its row and its card.
-/
import Derived.Test.YtaolnefplefjnaaGreatDoorPS
import Derived.Test.YtaolnefplefjnaaGreatDoorKP
import Derived.Carry
import Derived.Lay

namespace Go.Proofs.YtaolnefplefjnaaGreatDoor.encodeEntries
open Go.ChangeShapes Go.WideShapes Go.ChangeAt Go.RowKit

theorem laidOut : laidOutB Tryz.prog = true := by kernel_rfl
theorem rec0 : Tryz.prog.readableRec 44 = true := by kernel_rfl
theorem row0 : 44 < Tryz.prog.types.size := of_decide_eq_true (by kernel_rfl)
theorem rec1 : Tryz.prog.readableRec 5 = true := by kernel_rfl
theorem row1 : 5 < Tryz.prog.types.size := of_decide_eq_true (by kernel_rfl)
theorem listed : ("strings.asciiSpace", Lib.tabData .u8 Lib.asciiSpaceTab) ∈ Rows.encodeEntriesRow.laid :=
  List.mem_of_getElem? (i := 5) (by kernel_rfl)
theorem met {W : World} (hL : laidMetH Tryz.prog Rows.encodeEntriesRow.laid W) : laidMet Tryz.prog Rows.encodeEntriesRow.laid W := hL

set_option maxRecDepth 100000 in
theorem contract (H : Type) (enc : TypeId × Value → H) (W : World) (base : Nat) (args : Array Value) (ds gs : List (DataW H)) (before : List MemPlace)
    (hval : ∀ (j : Nat) t v, Tryz.f8.params[j]? = some t → args[j]? = some v → Value.okWide Tryz.prog W .any base t v)
    (hW : DataW.Whole enc Tryz.prog Tryz.f8.params.toList Rows.encodeEntriesSpec.vars false W args.toList ds gs before) (hL : laidMetH Tryz.prog Rows.encodeEntriesRow.laid W) :
    Calls Tryz.prog 8 args W fun e W' => ∃ v, e = .returned v ∧ Rows.encodeEntriesSpec.post enc Tryz.prog Tryz.f8 false true false false W args v W' := by
  have hT : Spc W := spc_of_reads (Lib.laidMet.reads (met hL) listed)
  have hW' := hW
  obtain ⟨p, q, hA0, hV, rfl, hfz, hnd⟩ := hW
  have hA : DataW.TrodAll enc Tryz.prog W 0 (fun _ => true) true Tryz.f8.params.toList args.toList ds p := hA0
  rw [Tryz.params8] at hA hval
  obtain ⟨v0, v1, v2, d0, d1, d2, p0, p1, p2, rfl, rfl, rfl, h0, h1, h2⟩ := trodAll_three hA
  obtain ⟨rfl, rfl⟩ := trodVars_none hV
  have HP := Lib.hid hW'
  clear hA0
  simp only [List.append_nil] at hW'
  have g0 := h0
  have g1 := h1
  have g2 := h2
  obtain ⟨x0, rfl, _, _, hz0⟩ := open_int Tryz.underlying5 (hval 0 5 v0 rfl rfl) h0
  obtain ⟨x1, rfl, _, _, hz1⟩ := open_int Tryz.underlying5 (hval 1 5 v1 rfl rfl) h1
  obtain ⟨x2, y2, rfl, _, hy2⟩ := open_arr2 Tryz.underlying44 Tryz.underlying3 (by kernel_rfl) (by kernel_rfl) (hval 2 44 v2 rfl rfl) h2
  have hlt : ∀ x ∈ p0 ++ p1 ++ p2, x.block < W.heap.size := fun x hx => by have := hW'.lt x hx; simpa using this
  refine (EncodeEntries_any x0 x1 (bounds_u8 hz0) (bounds_u8 hz1) x2 y2 W hT).mono fun e W' ⟨he, hg⟩ => ?_
  subst he
  exact ⟨_, rfl, _, _, _, [], p0 ++ (p1 ++ p2), [], hW', trodAll_mk1 (shut_bool Tryz.underlying4 _), trodAll_mk3 (Below.trod laidOut rec1 row1 g0 hg (fun x hx => hlt x (List.mem_append_left _ (List.mem_append_left _ hx)))) (Below.trod laidOut rec1 row1 g1 hg (fun x hx => hlt x (List.mem_append_left _ (List.mem_append_right _ hx)))) (Below.trod laidOut rec0 row0 g2 hg (fun x hx => hlt x (List.mem_append_right _ hx))), rfl, hg.frame _, fun h => by cases h⟩

/-- A WORLD FOR THE WITNESS: the listed variables laid. -/
noncomputable def w0 (os : Os) : World := World.laidAll Tryz.prog os Rows.encodeEntriesRow.laid
theorem laid_met (os : Os) : laidMet Tryz.prog Rows.encodeEntriesRow.laid ((w0 os).forCall (fun _ _ => 0) ⟨#[], #[.int .u8 0, .int .u8 0, .agg #[.int .i64 0, .int .i64 0]], []⟩).memory :=
  laidMet_laidAll _ (by kernel_rfl) (by kernel_rfl)
theorem reads (os : Os) {H : Type} (enc : TypeId × Value → H) : ∃ places, DataW.whole enc Tryz.prog ((w0 os).forCall (fun _ _ => 0) ⟨#[], #[.int .u8 0, .int .u8 0, .agg #[.int .i64 0, .int .i64 0]], []⟩).memory Tryz.f8.params.toList Rows.encodeEntriesSpec.vars false (#[(.int .u8 0 : Value), (.int .u8 0 : Value), (.agg #[.int .i64 0, .int .i64 0] : Value)] : Array Value).toList 8 = some ([.lit (.int .u8 0), .lit (.int .u8 0), .agg [.lit (.int .i64 0), .lit (.int .i64 0)]], [], places) :=
  ⟨[], by kernel_rfl⟩

set_option maxRecDepth 100000 in
theorem lifted (os : Os) (started : os.Started) (H : Type) (enc : TypeId × Value → H) (F : Stop.Interp) :
    ReturnsInHanded {} Tryz.checked os 8 .any ((OpenSpec.ofChange Rows.encodeEntriesSpec).preRow enc Tryz.prog Tryz.f8 Rows.encodeEntriesRow.domain false Rows.encodeEntriesRow.laid) (((OpenSpec.ofChange Rows.encodeEntriesSpec).at F).post enc Tryz.prog Tryz.f8 false true false false) := by
  obtain ⟨places, hx⟩ := reads os enc
  refine returnsInHanded_of_row (C := Tryz.checked) (s := OpenSpec.ofChange Rows.encodeEntriesSpec) own_knob started (by kernel_rfl) Tryz.func8
    (witness_row_atRef (enc := enc) (C := Tryz.checked) false (w0 os) #[.int .u8 0, .int .u8 0, .agg #[.int .i64 0, .int .i64 0]] (World.laidAll_os _ _ _) (by kernel_rfl) (by kernel_rfl) (by kernel_rfl)
      (OpenSpec.preRow_of_cond 8 hx (by kernel_rfl) (fun k hk => by cases hk) (by kernel_rfl) (laid_met os))) ?_
  intro W base args ds gs before hval hW _ _ _ hL _ _
  exact contract H enc W base args ds gs before hval hW hL

theorem said : Rows.EncodeEntriesSaid :=
  OpenClaim.holds_of_cond 8 Tryz.f8 rfl rfl rfl rfl rfl rfl rfl ⟨rfl, rfl, rfl, rfl, rfl⟩ rfl rfl rfl rfl rfl (by kernel_rfl) Tryz.func8 (by kernel_rfl)
    (of_decide_eq_true (by kernel_rfl)) (by unfold Func.isWrapper; first | (rw [if_pos (by decide +kernel)]; kernel_rfl) | (rw [if_neg (by decide +kernel)]; exact ⟨rfl, rfl⟩))
    (fun os started H enc _ F => by rw [OpenClaim.pre_eq_preRow]; exact lifted os started H enc F)

/-- No parameter wants a stand-in; the program's own looks are off: what the card asks. -/
theorem plain (f : FuncId) (fn : Func) (hf : Tryz.pinned.checked.prog.funcNamed "breadboard/breadboardlaw11.EncodeEntries" = some f) (hfn : Tryz.pinned.checked.prog.funcs[f]? = some fn) :
    false = Tryz.pinned.checked.prog.looks [] ∧ ∀ (j : Nat) t, fn.params[j]? = some t → Tryz.pinned.checked.prog.wantsStandIn t = false := by
  obtain rfl : f = 8 := Option.some.inj ((show Tryz.prog.funcNamed "breadboard/breadboardlaw11.EncodeEntries" = some 8 by kernel_rfl).symm.trans hf) |>.symm
  obtain rfl : fn = Tryz.f8 := (Option.some.inj (Tryz.func8.symm.trans hfn)).symm
  refine ⟨by kernel_rfl, fun j t ht => ?_⟩
  rw [Tryz.params8] at ht
  have hm := Array.mem_of_getElem? ht
  simp at hm
  rcases hm with rfl | rfl
  · exact (show Tryz.prog.wantsStandIn 5 = false by kernel_rfl)
  · exact (show Tryz.prog.wantsStandIn 44 = false by kernel_rfl)

/-- THE CARD -/
theorem card : Rows.EncodeEntriesCardSaid :=
  Claim7.holds_tied_plain_at .later [] _ _ _ _ said (fun _ h => by cases h) (by kernel_rfl) (fun _ h => by cases h) encodeEntries_row_tie rfl ⟨rfl, rfl⟩ (by kernel_rfl) rfl plain (by kernel_rfl)
end Go.Proofs.YtaolnefplefjnaaGreatDoor.encodeEntries
