/-
  MORE ARGUMENTS OPENED: lists of operands, numbers, strings, bytes.
-/
import Derived.Test.YtlepicdjnbbndaaGreatDoorKA
import Derived.Test.YtlepicdjnbbndaaGreatDoorK5
namespace Go.Proofs.YtlepicdjnbbndaaGreatDoor
open Go.RowKit Go.ChangeShapes Go.WideShapes Go.ChangeAt Go.Deep Go.Joins

variable {H : Type} {enc : TypeId × Value → H} {W : World}
/-- A slice of elements of one cell that came in. -/
theorem open_ones {α : Type} {f : α → Value} {h1 : ∀ x, ∀ u ∈ [f x], u.oneCell' = true} {Q : α → Prop} {t e : TypeId} {fuel : Nat} {cs : List Value} {y : DataW H × List MemPlace} (ht : Tryz.prog.underlying t = some (.slice e)) (hc : Tryz.prog.cellsOf e = 1)
    (hel : ∀ (n : Nat) (v : Value) (y : DataW H × List MemPlace), DataW.trod enc Tryz.prog W 0 (fun _ => true) true n e [v] = some y → ∃ x, v = f x ∧ Q x) (h : DataW.trod enc Tryz.prog W 0 (fun _ => true) true fuel t cs = some y) :
    ∃ v l, cs = [v] ∧ SlR (Rep.flat 1 (fun x => [f x]) (fun _ => rfl) h1) W (fun _ => True) v l ∧ ∀ x ∈ l, Q x := by
  rcases open_slice1 ht hc h with ⟨rfl, _⟩ | ⟨a, len, cap, m, n, V, D, Pl, rfl, _, hl, hm, hmm, _, hi⟩
  · exact ⟨_, [], rfl, SlR.nil _ _ _, by simp⟩
  · have key : ∀ i, i < len → ∃ x : α, W.cell? (a.add i) = some (f x) ∧ Q x := fun i hil => by
      obtain ⟨hcell, ht'⟩ := hi i (by rw [hmm, if_pos rfl]; omega)
      obtain ⟨x, hv, hq⟩ := hel _ _ _ ht'
      exact ⟨x, by rw [hcell, hv], hq⟩
    by_cases h0 : 0 < len
    · obtain ⟨x0, _⟩ := key 0 h0
      have key2 : ∀ i, ∃ x : α, i < len → W.cell? (a.add i) = some (f x) ∧ Q x := fun i => by
        by_cases hil : i < len
        · obtain ⟨x, hx⟩ := key i hil
          exact ⟨x, fun _ => hx⟩
        · exact ⟨x0, fun h => absurd h hil⟩
      have hg := fun i => (key2 i).choose_spec
      generalize hF : (fun i => (key2 i).choose) = F at hg
      have hF' : ∀ i, (key2 i).choose = F i := fun i => congrFun hF i
      simp only [hF'] at hg
      have hat : ∀ i x, ((List.range len).map F)[i]? = some x → i < len ∧ F i = x := fun i x hx => by
        rw [List.getElem?_map, Option.map_eq_some_iff] at hx
        obtain ⟨j, hj, rfl⟩ := hx
        obtain ⟨h1, h2⟩ := List.getElem?_eq_some_iff.1 hj
        simp at h1 h2
        subst h2
        exact ⟨h1, rfl⟩
      refine ⟨_, (List.range len).map F, rfl, ⟨some a, cap, by simp, by simpa using hl, hm, fun i x hx => ?_⟩, fun x hx => ?_⟩
      · obtain ⟨hil, rfl⟩ := hat i x hx
        have hcell := (hg i hil).1
        obtain ⟨b, o, spot⟩ := a
        have hspot : spot = none := by
          have := (hg 0 h0).1
          simpa [Addr.add] using World.cell?_spot this
        subst hspot
        rw [add_at] at hcell
        refine ⟨b, o, [f (F i)], rfl, trivial, World.block_lt_of_cell? W _ hcell, fun j u hu => ?_, rfl⟩
        match j, hu with
        | 0, hu => simp at hu; subst hu; simpa [Rep.flat] using hcell
      · obtain ⟨i, hi', rfl⟩ := List.mem_map.1 hx
        exact (hg i (by simpa using hi')).2
    · obtain rfl : len = 0 := by omega
      exact ⟨_, [], rfl, ⟨some a, cap, rfl, Nat.zero_le _, hm, fun i x h => by simp at h⟩, by simp⟩

theorem cells_slice {a : Option Addr} {n c : Nat} : (Value.slice a n c).cells.toList = [.slice a n c] := rfl
theorem c_byte : Tryz.prog.cellsOf 5 = 1 := by kernel_rfl
set_option maxRecDepth 100000 in
theorem open_ints_arg {b0 : Nat} {v : Value} {d : DataW H} {p : List MemPlace} (hv : Value.okWide Tryz.prog W .any b0 33 v) (h : DataW.Trod enc Tryz.prog W 0 (fun _ => true) true 33 v d p) :
    ∃ l, SlR intR W (fun _ => True) v l ∧ ∀ n ∈ l, fits64 n := by
  obtain ⟨a, n, c, rfl⟩ := okWide_slice Tryz.underlying33 hv
  obtain ⟨fuel, hf⟩ := h
  obtain ⟨v, l, e, hs, hq⟩ := open_ones (α := Int) (f := fun n => .int .i64 n) (h1 := fun x u hu => by simp at hu; subst hu; rfl) (Q := fits64) Tryz.underlying33 c_int (fun n v y ht => by
    obtain ⟨k, q, _, wf⟩ := DataW.trod_int Tryz.underlying3 ht
    obtain rfl := List.cons.inj q |>.1
    exact ⟨k, rfl, bounds_i64 wf⟩) hf
  rw [cells_slice] at e
  obtain rfl := List.cons.inj e |>.1
  exact ⟨l, hs, hq⟩
set_option maxRecDepth 100000 in
theorem open_strs_arg {b0 : Nat} {v : Value} {d : DataW H} {p : List MemPlace} (hv : Value.okWide Tryz.prog W .any b0 102 v) (h : DataW.Trod enc Tryz.prog W 0 (fun _ => true) true 102 v d p) :
    ∃ l, SlR strR W (fun _ => True) v l ∧ ∀ s ∈ l, s.size ≤ maxLen := by
  obtain ⟨a, n, c, rfl⟩ := okWide_slice Tryz.underlying102 hv
  obtain ⟨fuel, hf⟩ := h
  obtain ⟨v, l, e, hs, hq⟩ := open_ones (α := ByteArray) (f := fun n => .string n) (h1 := fun x u hu => by simp at hu; subst hu; rfl) (Q := fun s => s.size ≤ maxLen) Tryz.underlying102 c_string (fun n v y ht => by
    obtain ⟨k, q, _, wf⟩ := DataW.trod_string Tryz.underlying9 ht
    obtain rfl := List.cons.inj q |>.1
    exact ⟨k, rfl, wf⟩) hf
  rw [cells_slice] at e
  obtain rfl := List.cons.inj e |>.1
  exact ⟨l, hs, hq⟩
set_option maxRecDepth 100000 in
theorem open_opds_arg {b0 : Nat} {v : Value} {d : DataW H} {p : List MemPlace} (hv : Value.okWide Tryz.prog W .any b0 23 v) (h : DataW.Trod enc Tryz.prog W 0 (fun _ => true) true 23 v d p) :
    ∃ l, SlR opdR W (fun _ => True) v l ∧ ∀ x ∈ l, fits64 x.n := by
  obtain ⟨a, n, c, rfl⟩ := okWide_slice Tryz.underlying23 hv
  obtain ⟨fuel, hf⟩ := h
  rw [cells_slice] at hf
  exact open_opds hf
end Go.Proofs.YtlepicdjnbbndaaGreatDoor
