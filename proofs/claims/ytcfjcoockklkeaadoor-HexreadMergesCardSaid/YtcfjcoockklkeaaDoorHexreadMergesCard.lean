/-
  THE STATEMENT HexreadMerges: its row and its card.
-/
import Derived.Test.YtcfjcoockklkeaaDoorV29
import Derived.Test.YtcfjcoockklkeaaDoorKM
import Derived.Carry
import Derived.Lay

namespace Go.Proofs.YtcfjcoockklkeaaDoor.hexreadMerges
open Go.ChangeShapes Go.WideShapes Go.ChangeAt Go.RowKit

section OpenStrs
variable {H : Type} {enc : TypeId × Value → H} {W : World}
set_option maxRecDepth 100000 in
theorem open_strs_arg {b0 : Nat} {v : Value} {d : DataW H} {p : List MemPlace} (hv : Value.okWide Tryd.prog W .any b0 33 v) (h : DataW.Trod enc Tryd.prog W 0 (fun _ => true) true 33 v d p) :
    ∃ l, SlR strR W (fun _ => True) v l ∧ ∀ s ∈ l, s.size ≤ maxLen := by
  obtain ⟨a, n, c, rfl⟩ := okWide_slice Tryd.underlying33 hv
  obtain ⟨fuel, hf⟩ := h
  obtain ⟨v, l, e, hs, hq⟩ := open_ones (α := ByteArray) (f := fun n => .string n) (h1 := fun x u hu => by simp at hu; subst hu; rfl) (Q := fun s => s.size ≤ maxLen) Tryd.underlying33 (by kernel_rfl) (fun n v y ht => by
    obtain ⟨k, q, _, wf⟩ := DataW.trod_string Tryd.underlying9 ht
    obtain rfl := List.cons.inj q |>.1
    exact ⟨k, rfl, wf⟩) hf
  rw [show (Value.slice a n c).cells.toList = [.slice a n c] from rfl] at e
  obtain rfl := List.cons.inj e |>.1
  exact ⟨l, hs, hq⟩
end OpenStrs

theorem laidOut : laidOutB Tryd.prog = true := by kernel_rfl
theorem rec0 : Tryd.prog.readableRec 33 = true := by kernel_rfl
theorem row0 : 33 < Tryd.prog.types.size := of_decide_eq_true (by kernel_rfl)
theorem listed : ("math/bits.deBruijn64tab", debData) ∈ Rows.hexreadMergesRow.laid :=
  List.mem_of_getElem? (i := 0) (by kernel_rfl)
theorem met {W : World} (hL : laidMetH Tryd.prog Rows.hexreadMergesRow.laid W) : laidMet Tryd.prog Rows.hexreadMergesRow.laid W := hL

set_option maxRecDepth 100000 in
theorem contract (H : Type) (enc : TypeId × Value → H) (W : World) (base : Nat) (args : Array Value) (ds gs : List (DataW H)) (before : List MemPlace)
    (hval : ∀ (j : Nat) t v, Tryd.f8.params[j]? = some t → args[j]? = some v → Value.okWide Tryd.prog W .any base t v)
    (hW : DataW.Whole enc Tryd.prog Tryd.f8.params.toList Rows.hexreadMergesSpec.vars false W args.toList ds gs before) (hL : laidMetH Tryd.prog Rows.hexreadMergesRow.laid W) :
    Calls Tryd.prog 8 args W fun e W' => ∃ v, e = .returned v ∧ Rows.hexreadMergesSpec.post enc Tryd.prog Tryd.f8 false true false false W args v W' := by
  have hT : Deb W := deb_of_reads (Lib.laidMet.reads (met hL) listed)
  have hW' := hW
  obtain ⟨p, q, hA0, hV, rfl, hfz, hnd⟩ := hW
  have hA : DataW.TrodAll enc Tryd.prog W 0 (fun _ => true) true Tryd.f8.params.toList args.toList ds p := hA0
  rw [Tryd.params8] at hA hval
  obtain ⟨v0, d0, rfl, rfl, h0⟩ := trodAll_one hA
  obtain ⟨rfl, rfl⟩ := trodVars_none hV
  have HP := Lib.hid hW'
  clear hA0
  simp only [List.append_nil] at hW'
  have g0 := h0
  obtain ⟨x0, hs0, _⟩ := open_strs_arg (hval 0 33 v0 rfl rfl) h0
  have hlt : ∀ x ∈ p, x.block < W.heap.size := fun x hx => by have := hW'.lt x hx; simpa using this
  refine (Merges_any _ _ x0 W hs0 hT).mono fun e W' ⟨he, hg⟩ => ?_
  subst he
  exact ⟨_, rfl, _, _, _, [], p, [], hW', trodAll_mk1 (shut_bool Tryd.underlying4 _), trodAll_mk1 (Below.trod laidOut rec0 row0 g0 hg hlt), rfl, hg.frame _, fun h => by cases h⟩

/-- A WORLD FOR THE WITNESS: the listed variables laid. -/
noncomputable def w0 (os : Os) : World := World.laidAll Tryd.prog os Rows.hexreadMergesRow.laid
theorem laid_met (os : Os) : laidMet Tryd.prog Rows.hexreadMergesRow.laid ((w0 os).forCall (fun _ _ => 0) ⟨#[], #[.slice none 0 0], []⟩).memory :=
  laidMet_laidAll _ (by kernel_rfl) (by kernel_rfl)
theorem reads (os : Os) {H : Type} (enc : TypeId × Value → H) : ∃ places, DataW.whole enc Tryd.prog ((w0 os).forCall (fun _ _ => 0) ⟨#[], #[.slice none 0 0], []⟩).memory Tryd.f8.params.toList Rows.hexreadMergesSpec.vars false (#[(.slice none 0 0 : Value)] : Array Value).toList 8 = some ([.nil], [], places) :=
  ⟨[], by kernel_rfl⟩

set_option maxRecDepth 100000 in
theorem lifted (os : Os) (started : os.Started) (H : Type) (enc : TypeId × Value → H) (F : Stop.Interp) :
    ReturnsInHanded {} Tryd.checked os 8 .any ((OpenSpec.ofChange Rows.hexreadMergesSpec).preRow enc Tryd.prog Tryd.f8 Rows.hexreadMergesRow.domain false Rows.hexreadMergesRow.laid) (((OpenSpec.ofChange Rows.hexreadMergesSpec).at F).post enc Tryd.prog Tryd.f8 false true false false) := by
  obtain ⟨places, hx⟩ := reads os enc
  refine returnsInHanded_of_row (C := Tryd.checked) (s := OpenSpec.ofChange Rows.hexreadMergesSpec) own_knob started (by kernel_rfl) Tryd.func8
    (witness_row_atRef (enc := enc) (C := Tryd.checked) false (w0 os) #[.slice none 0 0] (World.laidAll_os _ _ _) (by kernel_rfl) (by kernel_rfl) (by kernel_rfl)
      (OpenSpec.preRow_of_cond 8 hx (by kernel_rfl) (fun k hk => by cases hk) (by kernel_rfl) (laid_met os))) ?_
  intro W base args ds gs before hval hW _ _ _ hL _ _
  exact contract H enc W base args ds gs before hval hW hL

theorem said : Rows.HexreadMergesSaid :=
  OpenClaim.holds_of_cond 8 Tryd.f8 rfl rfl rfl rfl rfl rfl rfl ⟨rfl, rfl, rfl, rfl, rfl⟩ rfl rfl rfl rfl rfl (by kernel_rfl) Tryd.func8 (by kernel_rfl)
    (of_decide_eq_true (by kernel_rfl)) (by unfold Func.isWrapper; first | (rw [if_pos (by decide +kernel)]; kernel_rfl) | (rw [if_neg (by decide +kernel)]; exact ⟨rfl, rfl⟩))
    (fun os started H enc _ F => by rw [OpenClaim.pre_eq_preRow]; exact lifted os started H enc F)

/-- No parameter wants a stand-in; the program's own looks are off: what the card asks. -/
theorem plain (f : FuncId) (fn : Func) (hf : Tryd.pinned.checked.prog.funcNamed "breadboard/breadboardlaw05.HexreadMerges" = some f) (hfn : Tryd.pinned.checked.prog.funcs[f]? = some fn) :
    false = Tryd.pinned.checked.prog.looks [] ∧ ∀ (j : Nat) t, fn.params[j]? = some t → Tryd.pinned.checked.prog.wantsStandIn t = false := by
  obtain rfl : f = 8 := Option.some.inj ((show Tryd.prog.funcNamed "breadboard/breadboardlaw05.HexreadMerges" = some 8 by kernel_rfl).symm.trans hf) |>.symm
  obtain rfl : fn = Tryd.f8 := (Option.some.inj (Tryd.func8.symm.trans hfn)).symm
  refine ⟨by kernel_rfl, fun j t ht => ?_⟩
  rw [Tryd.params8] at ht
  obtain rfl : t = 33 := by simpa using Array.mem_of_getElem? ht
  exact (show Tryd.prog.wantsStandIn 33 = false by kernel_rfl)

/-- THE CARD -/
theorem card : Rows.HexreadMergesCardSaid :=
  Claim7.holds_tied_plain_at .later [] _ _ _ _ said (fun _ h => by cases h) (by kernel_rfl) (fun _ h => by cases h) hexreadMerges_row_tie rfl ⟨rfl, rfl⟩ (by kernel_rfl) rfl plain (by kernel_rfl)
end Go.Proofs.YtcfjcoockklkeaaDoor.hexreadMerges
