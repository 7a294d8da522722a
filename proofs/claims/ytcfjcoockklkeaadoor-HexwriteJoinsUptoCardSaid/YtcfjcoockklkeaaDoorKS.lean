/-
  ARGUMENTS OPENED: a list of strings, of a bulk.
-/
import Derived.Test.YtcfjcoockklkeaaDoorKR
import Derived.Test.YtcfjcoockklkeaaDoorW23
namespace Go.Proofs.YtcfjcoockklkeaaDoor
open Go.RowKit Go.ChangeShapes Go.WideShapes Go.ChangeAt Go.Deep Go.Joins

variable {H : Type} {enc : TypeId × Value → H} {W : World}
theorem bulk_strs (l : List ByteArray) : Rows.uptoBulkAll (l.map fun s => (DataW.lit (.string s.data.toList) : DataW H)) = (joinS l).length := by
  induction l with
  | nil => rfl
  | cons s l ih =>
    rw [List.map_cons, Rows.uptoBulkAll, ih]
    simp [Rows.uptoBulk, joinS, joinL]
    omega
theorem joinS_count (l : List ByteArray) : l.length ≤ (joinS l).length := by
  induction l with
  | nil => simp
  | cons s l ih =>
    have e : joinS (s :: l) = s.data.toList ++ 10 :: joinS l := by simp [joinS, joinL]
    rw [e, List.length_append, List.length_cons, List.length_cons]
    omega
set_option maxRecDepth 100000 in
theorem open_strs_bulk {b0 : Nat} {v : Value} {d : DataW H} {p : List MemPlace} (hv : Value.okWide Tryd.prog W .any b0 33 v) (h : DataW.Trod enc Tryd.prog W 0 (fun _ => true) true 33 v d p) :
    ∃ l, SlR strR W (fun _ => True) v l ∧ (joinS l).length ≤ Rows.uptoBulk d := by
  have hcl : v.cells.toList = [v] := by
    obtain ⟨a, n, c, rfl⟩ := okWide_slice Tryd.underlying33 hv
    rfl
  obtain ⟨fuel, hf⟩ := h
  rw [hcl] at hf
  rcases open_slice1 Tryd.underlying33 (by kernel_rfl) hf with ⟨hv, _⟩ | ⟨a, len, cap, m, n, V, D, Pl, hv, _, hl, hm, hmm, hx, hi⟩
  · obtain rfl := List.cons.inj hv |>.1
    exact ⟨[], SlR.nil _ _ _, by simp [joinS, joinL]⟩
  · obtain rfl := List.cons.inj hv |>.1
    have key : ∀ i, i < len → ∃ x : ByteArray, W.cell? (a.add i) = some (.string x) ∧ D i = .lit (.string x.data.toList) := fun i hil => by
      obtain ⟨hcell, ht'⟩ := hi i (by rw [hmm, if_pos rfl]; omega)
      obtain ⟨x, hv, hq, _⟩ := DataW.trod_string Tryd.underlying9 ht'
      obtain hv := List.cons.inj hv |>.1
      exact ⟨x, by rw [hcell, hv], congrArg Prod.fst hq⟩
    obtain ⟨f, hf⟩ := choose_lt key
    have hat : ∀ i x, ((List.range len).map f)[i]? = some x → i < len ∧ f i = x := fun i x hx => by
      rw [List.getElem?_map, Option.map_eq_some_iff] at hx
      obtain ⟨j, hj, rfl⟩ := hx
      obtain ⟨h1, h2⟩ := List.getElem?_eq_some_iff.1 hj
      simp at h1 h2
      subst h2
      exact ⟨h1, rfl⟩
    have hd : d = .slice ((List.range len).map D) ((List.range (m - len)).map fun j => D (len + j)) := congrArg Prod.fst hx
    have he : (List.range len).map D = ((List.range len).map f).map fun s => (DataW.lit (.string s.data.toList) : DataW H) := by
      rw [List.map_map]
      apply List.map_congr_left
      intro i hi'
      exact (hf i (by simpa using hi')).2
    refine ⟨(List.range len).map f, ⟨some a, cap, by simp, by simpa using hl, hm, fun i x hx => ?_⟩, ?_⟩
    · obtain ⟨hil, rfl⟩ := hat i x hx
      have hcell := (hf i hil).1
      obtain ⟨b, o, spot⟩ := a
      have hspot : spot = none := by
        have := (hf 0 (by omega)).1
        simpa [Addr.add] using World.cell?_spot this
      subst hspot
      rw [add_at] at hcell
      refine ⟨b, o, [.string (f i)], rfl, trivial, World.block_lt_of_cell? W _ hcell, fun j u hu => ?_, rfl⟩
      match j, hu with
      | 0, hu => simp at hu; subst hu; simpa [strR, Rep.flat] using hcell
    · rw [hd, ← bulk_strs (H := H), ← he, Rows.uptoBulk]
      omega
end Go.Proofs.YtcfjcoockklkeaaDoor
