/-
  THE STATEMENT FlowClosed: the row's proof, lifted. Conditions: as the row says.
-/
import Derived.Test.YtpigbggoiipmhaaGreatDoorFB
import Derived.Carry
import Derived.Lay

namespace Go.Proofs.YtpigbggoiipmhaaGreatDoor.flowClosed
open Go.ChangeShapes Go.WideShapes Go.ChangeAt Go.RowKit

theorem laidOut : laidOutB Tryz.prog = true := by kernel_rfl
theorem rec0 : Tryz.prog.readableRec 37 = true := by kernel_rfl
theorem row0 : 37 < Tryz.prog.types.size := of_decide_eq_true (by kernel_rfl)
theorem rec1 : Tryz.prog.readableRec 38 = true := by kernel_rfl
theorem row1 : 38 < Tryz.prog.types.size := of_decide_eq_true (by kernel_rfl)
theorem rec2 : Tryz.prog.readableRec 3 = true := by kernel_rfl
theorem row2 : 3 < Tryz.prog.types.size := of_decide_eq_true (by kernel_rfl)
theorem listed : ("strings.asciiSpace", Lib.tabData .u8 Lib.asciiSpaceTab) ∈ Rows.flowClosedRow.laid :=
  List.mem_of_getElem? (i := 5) (by kernel_rfl)
theorem listedD : ("math/bits.deBruijn64tab", YC) ∈ Rows.flowClosedRow.laid :=
  List.mem_of_getElem? (i := 1) (by kernel_rfl)
theorem met {W : World} (hL : laidMetH Tryz.prog Rows.flowClosedRow.laid W) : laidMet Tryz.prog Rows.flowClosedRow.laid W := hL

set_option maxRecDepth 100000 in
theorem contract (H : Type) (enc : TypeId × Value → H) (W : World) (base : Nat) (args : Array Value) (ds gs : List (DataW H)) (before : List MemPlace)
    (hval : ∀ (j : Nat) t v, Tryz.f4.params[j]? = some t → args[j]? = some v → Value.okWide Tryz.prog W .any base t v)
    (hW : DataW.Whole enc Tryz.prog Tryz.f4.params.toList Rows.flowClosedSpec.vars false W args.toList ds gs before) (hL : laidMetH Tryz.prog Rows.flowClosedRow.laid W) {ts : List TypeId} (hR : (DataW.weightsEach Tryz.prog (Tryz.f4.params.toList ++ ts) (ds ++ gs)).all (· ≤ reachBytes) = true) :
    Calls Tryz.prog 4 args W fun e W' => ∃ v, e = .returned v ∧ Rows.flowClosedSpec.post enc Tryz.prog Tryz.f4 false true false false W args v W' := by
  have hT : Spc W := spc_of_reads (Lib.laidMet.reads (met hL) listed)
  have hD : Deb W := deb_of_reads (Lib.laidMet.reads (met hL) listedD)
  have hW' := hW
  obtain ⟨p, q, hA0, hV, rfl, hfz, hnd⟩ := hW
  have hA : DataW.TrodAll enc Tryz.prog W 0 (fun _ => true) true Tryz.f4.params.toList args.toList ds p := hA0
  rw [Tryz.params4] at hA hval
  obtain ⟨v0, v1, v2, d0, d1, d2, p0, p1, p2, rfl, rfl, rfl, h0, h1, h2⟩ := trodAll_three hA
  obtain ⟨rfl, rfl⟩ := trodVars_none hV
  have HP := aA hW'
  clear hA0
  simp only [List.append_nil] at hW'
  have g0 := h0
  have g1 := h1
  have g2 := h2
  obtain ⟨x0, hs0, hf0⟩ := XK (hval 0 37 v0 rfl rfl) h0
  obtain ⟨x1, hs1, _⟩ := XM (hval 1 38 v1 rfl rfl) h1
  obtain ⟨x2, rfl, _, _, _⟩ := open_int Tryz.underlying3 (hval 2 3 v2 rfl rfl) h2
  have hlt : ∀ x ∈ p0 ++ p1 ++ p2, x.block < W.heap.size := fun x hx => by have := hW'.lt x hx; simpa using this
  have hSz : x1.length * 8 ≤ 140737488351232 := by
    obtain ⟨a1, c1, e1, _⟩ := hs1
    subst e1
    exact oPp h1 hR (j := 1) (by rw [Tryz.params4]; rfl) rfl
  refine (FlowClosed_law x0 x1 x2 _ _ _ _ W hs0 hs1 hT hD hf0 hSz).mono fun e W' ⟨he, hg⟩ => ?_
  subst he
  exact ⟨_, rfl, _, _, _, [], p0 ++ (p1 ++ p2), [], hW', trodAll_mk1 (shut_bool Tryz.underlying4 _), trodAll_mk3 (Below.trod laidOut rec0 row0 g0 hg (fun x hx => hlt x (List.mem_append_left _ (List.mem_append_left _ hx)))) (Below.trod laidOut rec1 row1 g1 hg (fun x hx => hlt x (List.mem_append_left _ (List.mem_append_right _ hx)))) (Below.trod laidOut rec2 row2 g2 hg (fun x hx => hlt x (List.mem_append_right _ hx))), rfl, hg.frame _, fun h => by cases h⟩

/-- A WORLD FOR THE WITNESS: the listed variables laid. -/
noncomputable def w0 (os : Os) : World := World.laidAll Tryz.prog os Rows.flowClosedRow.laid
theorem laid_met (os : Os) : laidMet Tryz.prog Rows.flowClosedRow.laid ((w0 os).forCall (fun _ _ => 0) ⟨#[], #[.slice none 0 0, .slice none 0 0, .int .i64 0], []⟩).memory :=
  laidMet_laidAll _ (by kernel_rfl) (by kernel_rfl)
theorem reads (os : Os) {H : Type} (enc : TypeId × Value → H) : ∃ places, DataW.whole enc Tryz.prog ((w0 os).forCall (fun _ _ => 0) ⟨#[], #[.slice none 0 0, .slice none 0 0, .int .i64 0], []⟩).memory Tryz.f4.params.toList Rows.flowClosedSpec.vars false (#[(.slice none 0 0 : Value), (.slice none 0 0 : Value), (.int .i64 0 : Value)] : Array Value).toList 8 = some ([.nil, .nil, .lit (.int .i64 0)], [], places) :=
  ⟨[], by kernel_rfl⟩

set_option maxRecDepth 100000 in
theorem lifted (os : Os) (started : os.Started) (H : Type) (enc : TypeId × Value → H) (F : Stop.Interp) :
    ReturnsInHanded {} Tryz.checked os 4 .any ((OpenSpec.ofChange Rows.flowClosedSpec).preRow enc Tryz.prog Tryz.f4 Rows.flowClosedRow.domain false Rows.flowClosedRow.laid) (((OpenSpec.ofChange Rows.flowClosedSpec).at F).post enc Tryz.prog Tryz.f4 false true false false) := by
  obtain ⟨places, hx⟩ := reads os enc
  refine returnsInHanded_of_row (C := Tryz.checked) (s := OpenSpec.ofChange Rows.flowClosedSpec) own_knob started (by kernel_rfl) Tryz.func4
    (witness_row_atRef (enc := enc) (C := Tryz.checked) false (w0 os) #[.slice none 0 0, .slice none 0 0, .int .i64 0] (World.laidAll_os _ _ _) (by kernel_rfl) (by kernel_rfl) (by kernel_rfl)
      (OpenSpec.preRow_of_cond 8 hx (by kernel_rfl) (fun k hk => by cases hk) (by kernel_rfl) (laid_met os))) ?_
  intro W base args ds gs before hval hW _ _ hR hL _ _
  exact contract H enc W base args ds gs before hval hW hL hR

end Go.Proofs.YtpigbggoiipmhaaGreatDoor.flowClosed
