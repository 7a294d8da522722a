/-
  Arguments opened: an array of two numbers.
-/
import Derived.Test.YtlepicdjnbbndaaGreatDoorKD
namespace Go.Proofs.YtlepicdjnbbndaaGreatDoor
open Go.RowKit Go.ChangeShapes Go.WideShapes Go.ChangeAt Go.Deep Go.Joins

variable {H : Type} {enc : TypeId × Value → H} {W : World}
set_option maxRecDepth 100000 in
/-- An array of two numbers that came in by value. -/
theorem open_arr2 {k e : TypeId} {q : IntKind} {b0 : Nat} {v : Value} {d : DataW H} {p : List MemPlace} (hu : Tryz.prog.underlying k = some (.array 2 e)) (he : Tryz.prog.underlying e = some (.int q)) (hs : Tryz.prog.cellsOf k = 2) (h1 : Tryz.prog.cellsOf e = 1)
    (hv : Value.okWide Tryz.prog W .any b0 k v) (h : DataW.Trod enc Tryz.prog W 0 (fun _ => true) true k v d p) :
    ∃ a b : Int, v = .agg #[.int q a, .int q b] ∧ (Lit.int q a).wf = true ∧ (Lit.int q b).wf = true := by
  simp only [Value.okWide, hu] at hv
  obtain ⟨cs, rfl, hn, _⟩ := hv
  rw [hs] at hn
  obtain ⟨l⟩ := cs
  obtain ⟨x0, x1, rfl⟩ : ∃ x0 x1, l = [x0, x1] := by
    match l, hn with
    | [a, b], _ => exact ⟨a, b, rfl⟩
  obtain ⟨fuel, hf⟩ := h
  cases fuel with
  | zero => simp [DataW.trod] at hf
  | succ m =>
    rw [DataW.trod_step] at hf
    unfold DataW.trodStep at hf
    simp only [hu, Value.cells] at hf
    rw [if_pos (by rw [hs]; rfl), h1] at hf
    simp only [Option.map_eq_some_iff] at hf
    obtain ⟨ys, hy, _⟩ := hf
    rw [show List.range 2 = [0, 1] from rfl] at hy
    simp only [List.mapM_cons, List.mapM_nil, bind, Option.bind_eq_some_iff, pure, Option.some.injEq] at hy
    obtain ⟨y0, h0, ys', ⟨y1, h2, _⟩, _⟩ := hy
    obtain ⟨a, ea, _, wa⟩ := DataW.trod_int he h0
    obtain ⟨b, eb, _, wb⟩ := DataW.trod_int he h2
    simp at ea eb
    subst ea eb
    exact ⟨a, b, rfl, wa, wb⟩
end Go.Proofs.YtlepicdjnbbndaaGreatDoor
